-- Written by a program of this seat's session (wip/tools/ownprint.py, over the kit's printer) out of the translation: functions and their contracts.
import Derived.Test.YtdmhdbebjjhopaaPA0
import Derived.Test.YtdmhdbebjjhopaaPA3
import Derived.Test.YtdmhdbebjjhopaaPA4
namespace Go.Proofs.Ytdmhdbebjjhopaa.PA
open Go.RowKit Go.Proofs.YtdmhdbebjjhopaaW.PrintWords Go.Proofs.YtdmhdbebjjhopaaW.PrintLast Go.Proofs.YtdmhdbebjjhopaaW.PrintMore
attribute [local go_sem] max2_int min2_int max_two min_two max_three min_three max_four min_four   -- for this text's walks alone
set_option linter.unusedVariables false
set_option linter.unusedSimpArgs false

/-! ### score_Of: function 19 -/
mutual
def score_Of.j0 : Nat → List (S34) → Int → Int → Bool → Bool → Int → Int → Option (Int × Int × Int × Bool)
  | 0, _, _, _, _, _, _, _ => none
  | k + 1, x0, x1, x3, x4, x44, x120000, x120001 => if x44 = true then (some (0, 0, 0, false)) else (if 0 ≤ (wrap64 (x1 + 1)) then (if (wrap64 (x1 + 1)) ≤ (x0.length : Int) then ((some (x0.take ((wrap64 (x1 + 1)) : Int).toNat : List (S34))).bind fun y121 => (score_Of.l0 k x0 x1 x3 x4 y121 (y121.length : Int) 0 x120000 x120001)) else (none)) else (none))
def score_Of.l0 : Nat → List (S34) → Int → Int → Bool → List (S34) → Int → Int → Int → Int → Option (Int × Int × Int × Bool)
  | 0, _, _, _, _, _, _, _, _, _ => none
  | k + 1, x0, x1, x3, x4, x49, x50, x51, x120000, x120001 => if x51 < x50 then (if 0 ≤ x51 then (if x51 < (x49.length : Int) then (if ((rd_T34 x49 x51).f1) < 0 then (some (0, 0, 0, false)) else (if ((rd_T34 x49 x51).f1) > x3 then (some (0, 0, 0, false)) else (score_Of.l0 k x0 x1 x3 x4 x49 x50 (wrap64 (x51 + 1)) x120000 x120001))) else (none)) else (none)) else (if x4 = true then ((score_Predict.f k x0 x1 1 x3).bind fun t127 => ((score_Predict.f k x0 x1 2 x3).bind fun t128 => (score_Of.j2 k x0 x1 x3 t127 t128 x120000 x120001))) else (score_Of.j2 k x0 x1 x3 0 0 x120000 x120001))
def score_Of.j2 : Nat → List (S34) → Int → Int → Int → Int → Int → Int → Option (Int × Int × Int × Bool)
  | 0, _, _, _, _, _, _, _ => none
  | k + 1, x0, x1, x3, x15, x16, x120000, x120001 => (score_weights_product.f x120000 x120001).bind fun t129 => ((score_weights_product.f x120000 x120001).bind fun t130 => ((score_weights_product.f x120000 x120001).bind fun t131 => ((score_weights_sum.f x120000 x120001).bind fun t132 => (if 0 ≤ x1 then (if x1 < (x0.length : Int) then (score_Of.j3 k x0 x1 x15 x16 ((rd_T34 x0 x1).f1) x120000 x120001 (wrap64 (t129 * (wrap64 (x16 - x15)))) (wrap64 (t130 * x3)) (wrap64 (x3 * (wrap64 ((wrap64 (2 * t131)) + (wrap64 (t132 * (mx x120000 x120001)))))))) else (none)) else (none)))))
def score_Of.j3 : Nat → List (S34) → Int → Int → Int → Int → Int → Int → Int → Int → Int → Option (Int × Int × Int × Bool)
  | 0, _, _, _, _, _, _, _, _, _, _ => none
  | k + 1, x0, x1, x15, x16, x18, x120000, x120001, x134000, x134001, x134002 => if 0 ≤ x1 then (if x1 < (x0.length : Int) then (if ((rd_T34 x0 x1).f0.f4) = 1 then ((score_weights_sum.f x120000 x120001).bind fun t136 => (some (wrap64 (x134000 - (wrap64 ((wrap64 (t136 * x120001)) * (wrap64 (x18 - x15))))), x134001, x134002, true))) else (if ((rd_T34 x0 x1).f0.f4) = 2 then ((score_weights_sum.f x120000 x120001).bind fun t137 => (some (wrap64 (x134000 + (wrap64 ((wrap64 (t137 * x120000)) * (wrap64 (x18 - x16))))), x134001, x134002, true))) else (some (0, 0, 0, false)))) else (none)) else (none)
end
def score_Of.f (k : Nat) (l0 : List (S34)) (a1 : Int) (a2_0 : Int) (a2_1 : Int) (a2_2 : Int) (a3 : Int) (a4 : Bool) : Option (Int × Int × Int × Bool) := if a1 < 0 then (score_Of.j0 k l0 a1 a3 a4 true a2_1 a2_2) else (if a1 ≥ (l0.length : Int) then (score_Of.j0 k l0 a1 a3 a4 true a2_1 a2_2) else ((score_weights_valid.f a2_1 a2_2).bind fun t120 => (if t120 = true then (if a3 < 1 then (score_Of.j0 k l0 a1 a3 a4 true a2_1 a2_2) else (score_Of.j0 k l0 a1 a3 a4 (decide (a3 > 1048576)) a2_1 a2_2)) else (score_Of.j0 k l0 a1 a3 a4 true a2_1 a2_2))))
theorem score_Of.mono_l : ∀ k, (∀ y0 y1 y2 y3 y4 y5 y6, LeO (score_Of.j0 k y0 y1 y2 y3 y4 y5 y6) (score_Of.j0 (k + 1) y0 y1 y2 y3 y4 y5 y6)) ∧ (∀ y0 y1 y2 y3 y4 y5 y6 y7 y8, LeO (score_Of.l0 k y0 y1 y2 y3 y4 y5 y6 y7 y8) (score_Of.l0 (k + 1) y0 y1 y2 y3 y4 y5 y6 y7 y8)) ∧ (∀ y0 y1 y2 y3 y4 y5 y6, LeO (score_Of.j2 k y0 y1 y2 y3 y4 y5 y6) (score_Of.j2 (k + 1) y0 y1 y2 y3 y4 y5 y6)) ∧ (∀ y0 y1 y2 y3 y4 y5 y6 y7 y8 y9, LeO (score_Of.j3 k y0 y1 y2 y3 y4 y5 y6 y7 y8 y9) (score_Of.j3 (k + 1) y0 y1 y2 y3 y4 y5 y6 y7 y8 y9))
  | 0 => ⟨fun _ _ _ _ _ _ _ r h => by simp [score_Of.j0] at h, fun _ _ _ _ _ _ _ _ _ r h => by simp [score_Of.l0] at h, fun _ _ _ _ _ _ _ r h => by simp [score_Of.j2] at h, fun _ _ _ _ _ _ _ _ _ _ r h => by simp [score_Of.j3] at h⟩
  | k + 1 => by
    obtain ⟨ih0, ih1, ih2, ih3⟩ := score_Of.mono_l k
    refine ⟨?_, ?_, ?_, ?_⟩
    · intro y0 y1 y2 y3 y4 y5 y6
      unfold score_Of.j0
      repeat' first
      | (with_reducible exact ih0 _ _ _ _ _ _ _)
      | (with_reducible exact ih1 _ _ _ _ _ _ _ _ _)
      | (with_reducible exact ih2 _ _ _ _ _ _ _)
      | (with_reducible exact ih3 _ _ _ _ _ _ _ _ _ _)
      | (with_reducible exact score_Predict.mono _ _ _ _ _)
      | (with_reducible exact LeO.refl _)
      | (with_reducible exact LeO.none _)
      | (with_reducible refine LeO.ite ?_ ?_)
      | (with_reducible refine LeO.bind ?_ (fun _ => ?_))
      | exact ih0 _ _ _ _ _ _ _
      | exact ih1 _ _ _ _ _ _ _ _ _
      | exact ih2 _ _ _ _ _ _ _
      | exact ih3 _ _ _ _ _ _ _ _ _ _
      | exact score_Predict.mono _ _ _ _ _
      | exact LeO.none _
      | refine LeO.ite ?_ ?_
      | refine LeO.bind ?_ (fun _ => ?_)
    · intro y0 y1 y2 y3 y4 y5 y6 y7 y8
      unfold score_Of.l0
      repeat' first
      | (with_reducible exact ih0 _ _ _ _ _ _ _)
      | (with_reducible exact ih1 _ _ _ _ _ _ _ _ _)
      | (with_reducible exact ih2 _ _ _ _ _ _ _)
      | (with_reducible exact ih3 _ _ _ _ _ _ _ _ _ _)
      | (with_reducible exact score_Predict.mono _ _ _ _ _)
      | (with_reducible exact LeO.refl _)
      | (with_reducible exact LeO.none _)
      | (with_reducible refine LeO.ite ?_ ?_)
      | (with_reducible refine LeO.bind ?_ (fun _ => ?_))
      | exact ih0 _ _ _ _ _ _ _
      | exact ih1 _ _ _ _ _ _ _ _ _
      | exact ih2 _ _ _ _ _ _ _
      | exact ih3 _ _ _ _ _ _ _ _ _ _
      | exact score_Predict.mono _ _ _ _ _
      | exact LeO.none _
      | refine LeO.ite ?_ ?_
      | refine LeO.bind ?_ (fun _ => ?_)
    · intro y0 y1 y2 y3 y4 y5 y6
      unfold score_Of.j2
      repeat' first
      | (with_reducible exact ih0 _ _ _ _ _ _ _)
      | (with_reducible exact ih1 _ _ _ _ _ _ _ _ _)
      | (with_reducible exact ih2 _ _ _ _ _ _ _)
      | (with_reducible exact ih3 _ _ _ _ _ _ _ _ _ _)
      | (with_reducible exact score_Predict.mono _ _ _ _ _)
      | (with_reducible exact LeO.refl _)
      | (with_reducible exact LeO.none _)
      | (with_reducible refine LeO.ite ?_ ?_)
      | (with_reducible refine LeO.bind ?_ (fun _ => ?_))
      | exact ih0 _ _ _ _ _ _ _
      | exact ih1 _ _ _ _ _ _ _ _ _
      | exact ih2 _ _ _ _ _ _ _
      | exact ih3 _ _ _ _ _ _ _ _ _ _
      | exact score_Predict.mono _ _ _ _ _
      | exact LeO.none _
      | refine LeO.ite ?_ ?_
      | refine LeO.bind ?_ (fun _ => ?_)
    · intro y0 y1 y2 y3 y4 y5 y6 y7 y8 y9
      unfold score_Of.j3
      repeat' first
      | (with_reducible exact ih0 _ _ _ _ _ _ _)
      | (with_reducible exact ih1 _ _ _ _ _ _ _ _ _)
      | (with_reducible exact ih2 _ _ _ _ _ _ _)
      | (with_reducible exact ih3 _ _ _ _ _ _ _ _ _ _)
      | (with_reducible exact score_Predict.mono _ _ _ _ _)
      | (with_reducible exact LeO.refl _)
      | (with_reducible exact LeO.none _)
      | (with_reducible refine LeO.ite ?_ ?_)
      | (with_reducible refine LeO.bind ?_ (fun _ => ?_))
      | exact ih0 _ _ _ _ _ _ _
      | exact ih1 _ _ _ _ _ _ _ _ _
      | exact ih2 _ _ _ _ _ _ _
      | exact ih3 _ _ _ _ _ _ _ _ _ _
      | exact score_Predict.mono _ _ _ _ _
      | exact LeO.none _
      | refine LeO.ite ?_ ?_
      | refine LeO.bind ?_ (fun _ => ?_)
theorem score_Of.mono : ∀ a0 a1 a2 a3 a4 a5 a6 k, LeO (score_Of.f k a0 a1 a2 a3 a4 a5 a6) (score_Of.f (k + 1) a0 a1 a2 a3 a4 a5 a6) := by
  intro a0 a1 a2 a3 a4 a5 a6 k
  obtain ⟨ih0, ih1, ih2, ih3⟩ := score_Of.mono_l k
  unfold score_Of.f
  repeat' first
      | (with_reducible exact ih0 _ _ _ _ _ _ _)
      | (with_reducible exact ih1 _ _ _ _ _ _ _ _ _)
      | (with_reducible exact ih2 _ _ _ _ _ _ _)
      | (with_reducible exact ih3 _ _ _ _ _ _ _ _ _ _)
      | (with_reducible exact score_Predict.mono _ _ _ _ _)
      | (with_reducible exact LeO.refl _)
      | (with_reducible exact LeO.none _)
      | (with_reducible refine LeO.ite ?_ ?_)
      | (with_reducible refine LeO.bind ?_ (fun _ => ?_))
      | exact ih0 _ _ _ _ _ _ _
      | exact ih1 _ _ _ _ _ _ _ _ _
      | exact ih2 _ _ _ _ _ _ _
      | exact ih3 _ _ _ _ _ _ _ _ _ _
      | exact score_Predict.mono _ _ _ _ _
      | exact LeO.none _
      | refine LeO.ite ?_ ?_
      | refine LeO.bind ?_ (fun _ => ?_)
def score_Of.T13 : Bool × List (List Nat × List Nat) := (true, [([], []), ([0], [0]), ([], []), ([], []), ([2, 3], [2, 3]), ([1, 4], [1, 4]), ([], []), ([6, 1], [6]), ([], []), ([7, 8], [7, 8]), ([], []), ([], []), ([11, 7], [11]), ([12], [12]), ([], []), ([14, 12], [14]), ([], []), ([16], [16]), ([], []), ([18], [18]), ([17, 19], [17, 19]), ([15, 20], [15, 20]), ([13, 21], [13, 21]), ([10, 22], [10, 22]), ([5, 9, 23], [5, 9, 23]), ([], []), ([25, 24, 15, 0, 1, 2, 3, 4, 5, 6, 7, 8, 9, 10, 11, 12, 13, 14, 15, 16, 17, 18, 19, 20, 21, 22, 23, 24, 25], [24, 25])])
def score_Of.B13 : List Nat := [0, 1, 0, 0, 12, 31, 0, 67, 0, 451, 0, 0, 2243, 6339, 0, 22723, 0, 65536, 0, 262144, 983040, 2087107, 4192451, 8387779, 16777215, 0, 67108863]
theorem score_Of.tab13 : rtab .any (opsOf Try.f19 13) = score_Of.T13 := by kernel_rfl
theorem score_Of.bits13 : waitsOk score_Of.T13.2 score_Of.B13 = true := by kernel_rfl
def score_Of.T18 : Bool × List (List Nat × List Nat) := (true, [([], []), ([0], [0]), ([], []), ([2], [2]), ([], []), ([4], [4]), ([3, 5], [3, 5]), ([], []), ([], []), ([7, 8], [7, 8]), ([6, 9], [6, 9]), ([1, 10], [1, 10]), ([0, 1, 2, 3, 4, 5, 6, 7, 8, 9, 10, 11], []), ([12, 11, 3, 0, 1, 2, 3, 4, 5, 6, 7, 8, 9, 10, 11], [11, 12])])
def score_Of.B18 : List Nat := [0, 1, 0, 4, 0, 16, 60, 0, 0, 384, 1020, 2047, 4095, 8191]
theorem score_Of.tab18 : rtab .any (opsOf Try.f19 18) = score_Of.T18 := by kernel_rfl
theorem score_Of.bits18 : waitsOk score_Of.T18.2 score_Of.B18 = true := by kernel_rfl
def score_Of.T20 : Bool × List (List Nat × List Nat) := (true, [([], []), ([0], [0]), ([], []), ([2], [2]), ([], []), ([4], [4]), ([3, 5], [3, 5]), ([], []), ([], []), ([7, 8], [7, 8]), ([6, 9], [6, 9]), ([1, 10], [1, 10]), ([0, 1, 2, 3, 4, 5, 6, 7, 8, 9, 10, 11], []), ([12, 11, 3, 0, 1, 2, 3, 4, 5, 6, 7, 8, 9, 10, 11], [11, 12])])
def score_Of.B20 : List Nat := [0, 1, 0, 4, 0, 16, 60, 0, 0, 384, 1020, 2047, 4095, 8191]
theorem score_Of.tab20 : rtab .any (opsOf Try.f19 20) = score_Of.T20 := by kernel_rfl
theorem score_Of.bits20 : waitsOk score_Of.T20.2 score_Of.B20 = true := by kernel_rfl
set_option maxHeartbeats 8000000 in
set_option maxRecDepth 100000 in
theorem score_Of.calls (k : Nat) (A0 : Option Addr) (c0 : Nat) (l0 : List (S34)) (a1 : Int) (a2_0 : Int) (a2_1 : Int) (a2_2 : Int) (a3 : Int) (a4 : Bool) (r1 : Int) (r2 : Int) (r3 : Int) (r4 : Bool) (w : World) (hr0 : Kd.C k34 w A0 l0.length l0) (hc0 : l0.length ≤ c0) (h : score_Of.f k l0 a1 a2_0 a2_1 a2_2 a3 a4 = some (r1, r2, r3, r4)) :
    Calls Try.prog 19 #[.slice A0 l0.length c0, .int .i64 a1, .agg #[.int .i64 a2_0, .int .i64 a2_1, .int .i64 a2_2], .int .i64 a3, .bool a4] w fun e w' => e = .returned (.tuple #[.agg #[.int .i64 r1, .int .i64 r2, .int .i64 r3], .bool r4]) ∧ Below w.heap.size w w' := by
  have hu42 := Try.underlying42
  have hu37 := Try.underlying37
  have hu64 := Try.underlying64
  have hu34 := Try.underlying34
  have HR0 := Aside0.mk hr0
  have HC0 := Aside0.mk hc0
  clear hr0 hc0
  have HB := Aside0.mk (Below.refl w.heap.size w)
  have H : (if a1 < 0 then (score_Of.j0 k l0 a1 a3 a4 true a2_1 a2_2) else (if a1 ≥ (l0.length : Int) then (score_Of.j0 k l0 a1 a3 a4 true a2_1 a2_2) else ((score_weights_valid.f a2_1 a2_2).bind fun t120 => (if t120 = true then (if a3 < 1 then (score_Of.j0 k l0 a1 a3 a4 true a2_1 a2_2) else (score_Of.j0 k l0 a1 a3 a4 (decide (a3 > 1048576)) a2_1 a2_2)) else (score_Of.j0 k l0 a1 a3 a4 true a2_1 a2_2))))) = some (r1, r2, r3, r4) := h
  clear h
  have HC6 := Aside0.mk H
  clear H
  go_enter Try.func19, Try.ntmps19
  go_upto_region 2 with (first | ((with_reducible refine gate_dst (N := 7) rfl ?_); (try (refine gate_guard (by rfl) ?_; dsimp only)); refine box_event ?hg (N := 7) ?hd (cs := #[.int .i64 a2_0, .int .i64 a2_1, .int .i64 a2_2]) (t := 42) ?hr ?_; (case hd => rfl); (case hg => rfl); (case hr => first | (go_simp; done) | (go_simp; rfl)); intro gb117 hg w7 hbox hb; have n0_ := Aside0.mk (below_step (by repeat (first | (with_reducible first | exact HB.out | apply below_alloc | apply pw_below_drewN | apply below_drew1) | exact HB.out)) hb); have n1_ := Aside0.mk (hbox); have n2_ := Aside0.mk ((by rw [hg]; exact (below_size (by repeat (first | (with_reducible first | exact HB.out | apply below_alloc | apply pw_below_drewN | apply below_drew1) | exact HB.out))) : w.heap.size ≤ gb117)); have n3_ := Aside0.mk ((by rw [hg]; exact (below_size (by repeat (first | (with_reducible first | exact HB.out | apply below_alloc | apply pw_below_drewN | apply below_drew1) | exact HB.out))) : w.heap.size ≤ gb117)); clear HB; have HB := n0_; have BK117 := n1_; have GW117 := n2_; have GE117 := n3_; clear n0_ n1_ n2_ n3_; clear hb hbox hg) | ((with_reducible refine gate_dst (N := 10) rfl ?_); (try (refine gate_guard (by rfl) ?_; dsimp only)); refine box_event ?hg (N := 10) ?hd (cs := #[.int .i64 0, .int .i64 0, .int .i64 0]) (t := 37) ?hr ?_; (case hd => rfl); (case hg => rfl); (case hr => first | (go_simp; done) | (go_simp; rfl)); intro gb118 hg w8 hbox hb; have n0_ := Aside0.mk (blk_below (g := gb117) (o := .cells #[.int .i64 a2_0, .int .i64 a2_1, .int .i64 a2_2] 42 (0, 0)) (by (with_reducible repeat (first | refine blk_drewN ?_ _ | refine blk_drew ?_ | refine blk_alloc ?_ _)); exact BK117.out) hb); have n1_ := Aside0.mk (below_step (by repeat (first | (with_reducible first | exact HB.out | apply below_alloc | apply pw_below_drewN | apply below_drew1 | refine below_set ?_ GE117.out) | exact HB.out)) hb); have n2_ := Aside0.mk (hbox); have n3_ := Aside0.mk ((by rw [hg]; exact (below_size (by repeat (first | (with_reducible first | exact HB.out | apply below_alloc | apply pw_below_drewN | apply below_drew1 | refine below_set ?_ GE117.out) | exact HB.out))) : w.heap.size ≤ gb118)); have n4_ := Aside0.mk ((by rw [hg]; exact (below_size (by repeat (first | (with_reducible first | exact HB.out | apply below_alloc | apply pw_below_drewN | apply below_drew1 | refine below_set ?_ GE117.out) | exact HB.out))) : w.heap.size ≤ gb118)); have n5_ := Aside0.mk ((by rw [hg]; exact Nat.ne_of_lt (blk_lt (g := gb117) (o := .cells #[.int .i64 a2_0, .int .i64 a2_1, .int .i64 a2_2] 42 (0, 0)) (by (with_reducible repeat (first | refine blk_drewN ?_ _ | refine blk_drew ?_ | refine blk_alloc ?_ _)); exact BK117.out)) : gb117 ≠ gb118)); have n6_ := Aside0.mk ((by rw [hg]; exact Nat.ne_of_gt (blk_lt (g := gb117) (o := .cells #[.int .i64 a2_0, .int .i64 a2_1, .int .i64 a2_2] 42 (0, 0)) (by (with_reducible repeat (first | refine blk_drewN ?_ _ | refine blk_drew ?_ | refine blk_alloc ?_ _)); exact BK117.out)) : gb118 ≠ gb117)); clear BK117; clear HB; have BK117 := n0_; have HB := n1_; have BK118 := n2_; have GW118 := n3_; have GE118 := n4_; have NB117_118 := n5_; have NB118_117 := n6_; clear n0_ n1_ n2_ n3_ n4_ n5_ n6_; clear hb hbox hg; have hnb9 := NB117_118.out; have hnc9 := NB118_117.out; have hcz10_0 : w8.cell? ⟨gb117, 0, none⟩ = some (.int .i64 a2_0) := (blk_cell BK117.out 0).trans rfl; have hcz10_1 : w8.cell? ⟨gb117, 1, none⟩ = some (.int .i64 a2_1) := (blk_cell BK117.out 1).trans rfl; have hcz10_2 : w8.cell? ⟨gb117, 2, none⟩ = some (.int .i64 a2_2) := (blk_cell BK117.out 2).trans rfl; have hfz10_0 := blk_frozen BK117.out 0; have hfz10_1 := blk_frozen BK117.out 1; have hfz10_2 := blk_frozen BK117.out 2) | ((with_reducible refine gate_dst (N := 12) rfl ?_); (try (refine gate_guard (by rfl) ?_; dsimp only)); refine box_event ?hg (N := 12) ?hd (cs := #[.int .i64 0, .int .i64 0]) (t := 64) ?hr ?_; (case hd => rfl); (case hg => rfl); (case hr => first | (go_simp; done) | (go_simp; rfl)); intro gb119 hg w11 hbox hb; have n0_ := Aside0.mk (blk_below (g := gb117) (o := .cells #[.int .i64 a2_0, .int .i64 a2_1, .int .i64 a2_2] 42 (0, 0)) (by (with_reducible repeat (first | refine blk_drewN ?_ _ | refine blk_drew ?_ | refine blk_alloc ?_ _)); exact BK117.out) hb); have n1_ := Aside0.mk (blk_below (g := gb118) (o := .cells #[.int .i64 0, .int .i64 0, .int .i64 0] 37 (0, 0)) (by (with_reducible repeat (first | refine blk_drewN ?_ _ | refine blk_drew ?_ | refine blk_alloc ?_ _)); exact BK118.out) hb); have n2_ := Aside0.mk (below_step (by repeat (first | (with_reducible first | exact HB.out | apply below_alloc | apply pw_below_drewN | apply below_drew1 | refine below_set ?_ GE117.out | refine below_set ?_ GE118.out) | exact HB.out)) hb); have n3_ := Aside0.mk (hbox); have n4_ := Aside0.mk ((by rw [hg]; exact (below_size (by repeat (first | (with_reducible first | exact HB.out | apply below_alloc | apply pw_below_drewN | apply below_drew1 | refine below_set ?_ GE117.out | refine below_set ?_ GE118.out) | exact HB.out))) : w.heap.size ≤ gb119)); have n5_ := Aside0.mk ((by rw [hg]; exact (below_size (by repeat (first | (with_reducible first | exact HB.out | apply below_alloc | apply pw_below_drewN | apply below_drew1 | refine below_set ?_ GE117.out | refine below_set ?_ GE118.out) | exact HB.out))) : w.heap.size ≤ gb119)); have n6_ := Aside0.mk ((by rw [hg]; exact Nat.ne_of_lt (blk_lt (g := gb117) (o := .cells #[.int .i64 a2_0, .int .i64 a2_1, .int .i64 a2_2] 42 (0, 0)) (by (with_reducible repeat (first | refine blk_drewN ?_ _ | refine blk_drew ?_ | refine blk_alloc ?_ _)); exact BK117.out)) : gb117 ≠ gb119)); have n7_ := Aside0.mk ((by rw [hg]; exact Nat.ne_of_gt (blk_lt (g := gb117) (o := .cells #[.int .i64 a2_0, .int .i64 a2_1, .int .i64 a2_2] 42 (0, 0)) (by (with_reducible repeat (first | refine blk_drewN ?_ _ | refine blk_drew ?_ | refine blk_alloc ?_ _)); exact BK117.out)) : gb119 ≠ gb117)); have n8_ := Aside0.mk ((by rw [hg]; exact Nat.ne_of_lt (blk_lt (g := gb118) (o := .cells #[.int .i64 0, .int .i64 0, .int .i64 0] 37 (0, 0)) (by (with_reducible repeat (first | refine blk_drewN ?_ _ | refine blk_drew ?_ | refine blk_alloc ?_ _)); exact BK118.out)) : gb118 ≠ gb119)); have n9_ := Aside0.mk ((by rw [hg]; exact Nat.ne_of_gt (blk_lt (g := gb118) (o := .cells #[.int .i64 0, .int .i64 0, .int .i64 0] 37 (0, 0)) (by (with_reducible repeat (first | refine blk_drewN ?_ _ | refine blk_drew ?_ | refine blk_alloc ?_ _)); exact BK118.out)) : gb119 ≠ gb118)); clear BK117; clear BK118; clear HB; have BK117 := n0_; have BK118 := n1_; have HB := n2_; have BK119 := n3_; have GW119 := n4_; have GE119 := n5_; have NB117_119 := n6_; have NB119_117 := n7_; have NB118_119 := n8_; have NB119_118 := n9_; clear n0_ n1_ n2_ n3_ n4_ n5_ n6_ n7_ n8_ n9_; clear hb hbox hg; have hnb12 := NB119_117.out; have hnc12 := NB117_119.out; have hnb13 := NB119_118.out; have hnc13 := NB118_119.out; have hcz14_0 : w11.cell? ⟨gb119, 0, none⟩ = some (.int .i64 0) := (blk_cell BK119.out 0).trans rfl; have hcz14_1 : w11.cell? ⟨gb119, 1, none⟩ = some (.int .i64 0) := (blk_cell BK119.out 1).trans rfl; have hfz14_0 := blk_frozen BK119.out 0; have hfz14_1 := blk_frozen BK119.out 1))
  (try simp only [Act.put, List.setIfInBounds_toArray, List.set_cons_zero, List.set_cons_succ])
  go_cut [44] (fun v44 wc => ∃ (kq : Nat) (x44_5 : Bool), v44 = .bool x44_5 ∧ Aside0 (score_Of.j0 kq l0 a1 a3 a4 x44_5 a2_1 a2_2 = some (r1, r2, r3, r4)) ∧ Aside0 (kq ≤ k) ∧ Aside0 (wc.heap[gb117]? = some (.cells #[.int .i64 a2_0, .int .i64 a2_1, .int .i64 a2_2] 42 (0, 0))) ∧ Aside0 (wc.heap[gb118]? = some (.cells #[.int .i64 0, .int .i64 0, .int .i64 0] 37 (0, 0))) ∧ Aside0 (wc.heap[gb119]? = some (.cells #[.int .i64 a2_1, .int .i64 a2_2] 64 (0, 0))) ∧ Aside0 (Below w.heap.size w wc))
  case first =>
    have H := HC6.out
    clear HC6
    by_cases c15 : a1 < 0
    · rw [if_pos c15] at H
      have c15b0 : decide (a1 < 0) = true := decide_eq_true c15
      clear c15
      (first | rw [c15b0] | (simp only [i64_w, i32_w]; rw [c15b0]) | skip)
      have H' := Aside0.mk H
      clear H
      go_wp2
      go_meet
      case rel => exact ⟨_, (true), (by first | rfl | (simp; done) | (simp [*]; done) | exact congrArg (Value.int _) (by unfold wrap64; omega)), H', ⟨by first | omega | exact Nat.le_refl _⟩, ⟨by (with_reducible repeat (first | refine blk_drewN ?_ _ | refine blk_drew ?_ | refine blk_alloc ?_ _)); refine blk_far ?_ NB117_119.out _; (with_reducible repeat (first | refine blk_drewN ?_ _ | refine blk_drew ?_ | refine blk_alloc ?_ _)); refine blk_far ?_ NB117_119.out _; (with_reducible repeat (first | refine blk_drewN ?_ _ | refine blk_drew ?_ | refine blk_alloc ?_ _)); exact BK117.out⟩, ⟨by (with_reducible repeat (first | refine blk_drewN ?_ _ | refine blk_drew ?_ | refine blk_alloc ?_ _)); refine blk_far ?_ NB118_119.out _; (with_reducible repeat (first | refine blk_drewN ?_ _ | refine blk_drew ?_ | refine blk_alloc ?_ _)); refine blk_far ?_ NB118_119.out _; (with_reducible repeat (first | refine blk_drewN ?_ _ | refine blk_drew ?_ | refine blk_alloc ?_ _)); exact BK118.out⟩, ⟨by (with_reducible repeat (first | refine blk_drewN ?_ _ | refine blk_drew ?_ | refine blk_alloc ?_ _)); refine blk_put (cs := #[.int .i64 a2_1, .int .i64 0]) ?_ 1 _ rfl; (with_reducible repeat (first | refine blk_drewN ?_ _ | refine blk_drew ?_ | refine blk_alloc ?_ _)); refine blk_put (cs := #[.int .i64 0, .int .i64 0]) ?_ 0 _ rfl; (with_reducible repeat (first | refine blk_drewN ?_ _ | refine blk_drew ?_ | refine blk_alloc ?_ _)); exact BK119.out⟩, ⟨by repeat (first | (with_reducible first | exact HB.out | apply below_alloc | apply pw_below_drewN | apply below_drew1 | refine below_set ?_ GE117.out | refine below_set ?_ GE118.out | refine below_set ?_ GE119.out) | exact HB.out)⟩⟩
    · rw [if_neg c15] at H
      have c15b0 : decide (a1 < 0) = false := decide_eq_false c15
      clear c15
      (first | rw [c15b0] | (simp only [i64_w, i32_w]; rw [c15b0]) | skip)
      by_cases c16 : a1 ≥ (l0.length : Int)
      · rw [if_pos c16] at H
        have c16b0 : decide ((l0.length : Int) ≤ a1) = true := decide_eq_true c16
        clear c16
        have H' := Aside0.mk H
        clear H
        go_wp2
        go_meet
        case rel => exact ⟨_, (true), (by first | rfl | (simp; done) | (simp [*]; done) | exact congrArg (Value.int _) (by unfold wrap64; omega)), H', ⟨by first | omega | exact Nat.le_refl _⟩, ⟨by (with_reducible repeat (first | refine blk_drewN ?_ _ | refine blk_drew ?_ | refine blk_alloc ?_ _)); refine blk_far ?_ NB117_119.out _; (with_reducible repeat (first | refine blk_drewN ?_ _ | refine blk_drew ?_ | refine blk_alloc ?_ _)); refine blk_far ?_ NB117_119.out _; (with_reducible repeat (first | refine blk_drewN ?_ _ | refine blk_drew ?_ | refine blk_alloc ?_ _)); exact BK117.out⟩, ⟨by (with_reducible repeat (first | refine blk_drewN ?_ _ | refine blk_drew ?_ | refine blk_alloc ?_ _)); refine blk_far ?_ NB118_119.out _; (with_reducible repeat (first | refine blk_drewN ?_ _ | refine blk_drew ?_ | refine blk_alloc ?_ _)); refine blk_far ?_ NB118_119.out _; (with_reducible repeat (first | refine blk_drewN ?_ _ | refine blk_drew ?_ | refine blk_alloc ?_ _)); exact BK118.out⟩, ⟨by (with_reducible repeat (first | refine blk_drewN ?_ _ | refine blk_drew ?_ | refine blk_alloc ?_ _)); refine blk_put (cs := #[.int .i64 a2_1, .int .i64 0]) ?_ 1 _ rfl; (with_reducible repeat (first | refine blk_drewN ?_ _ | refine blk_drew ?_ | refine blk_alloc ?_ _)); refine blk_put (cs := #[.int .i64 0, .int .i64 0]) ?_ 0 _ rfl; (with_reducible repeat (first | refine blk_drewN ?_ _ | refine blk_drew ?_ | refine blk_alloc ?_ _)); exact BK119.out⟩, ⟨by repeat (first | (with_reducible first | exact HB.out | apply below_alloc | apply pw_below_drewN | apply below_drew1 | refine below_set ?_ GE117.out | refine below_set ?_ GE118.out | refine below_set ?_ GE119.out) | exact HB.out)⟩⟩
      · rw [if_neg c16] at H
        have c16b0 : decide ((l0.length : Int) ≤ a1) = false := decide_eq_false c16
        clear c16
        replace H := Option.bind_eq_some_iff.mp H
        obtain ⟨t120, A170, H⟩ := H
        replace H : (if t120 = true then (if a3 < 1 then (score_Of.j0 k l0 a1 a3 a4 true a2_1 a2_2) else (score_Of.j0 k l0 a1 a3 a4 (decide (a3 > 1048576)) a2_1 a2_2)) else (score_Of.j0 k l0 a1 a3 a4 true a2_1 a2_2)) = some (r1, r2, r3, r4) := H
        have A17 := Aside0.mk A170
        clear A170
        by_cases c18 : t120 = true
        · subst c18
          have H1 : (if a3 < 1 then (score_Of.j0 k l0 a1 a3 a4 true a2_1 a2_2) else (score_Of.j0 k l0 a1 a3 a4 (decide (a3 > 1048576)) a2_1 a2_2)) = some (r1, r2, r3, r4) := by rw [if_pos rfl] at H; exact H
          clear H
          have H := H1
          clear H1
          by_cases c19 : a3 < 1
          · rw [if_pos c19] at H
            have c19b0 : decide (a3 < 1) = true := decide_eq_true c19
            clear c19
            have H' := Aside0.mk H
            clear H
            have hnb20 := NB119_117.out
            have hnc20 := NB117_119.out
            have hnb21 := NB119_118.out
            have hnc21 := NB118_119.out
            have hcz22_0 : w11.cell? ⟨gb119, 0, none⟩ = some (.int .i64 0) := (blk_cell BK119.out 0).trans rfl
            have hcz22_1 : w11.cell? ⟨gb119, 1, none⟩ = some (.int .i64 0) := (blk_cell BK119.out 1).trans rfl
            have hfz22_0 := blk_frozen BK119.out 0
            have hfz22_1 := blk_frozen BK119.out 1
            go_wp2_with (first | (go_at_call 31; (with_reducible refine (score_weights_valid.calls a2_1 a2_2 true _ A17.out).mono ?_); rintro e w23 ⟨rfl, hb⟩; have n0_ := Aside0.mk (blk_below (g := gb117) (o := .cells #[.int .i64 a2_0, .int .i64 a2_1, .int .i64 a2_2] 42 (0, 0)) (by (with_reducible repeat (first | refine blk_drewN ?_ _ | refine blk_drew ?_ | refine blk_alloc ?_ _)); refine blk_far ?_ NB117_119.out _; (with_reducible repeat (first | refine blk_drewN ?_ _ | refine blk_drew ?_ | refine blk_alloc ?_ _)); refine blk_far ?_ NB117_119.out _; (with_reducible repeat (first | refine blk_drewN ?_ _ | refine blk_drew ?_ | refine blk_alloc ?_ _)); exact BK117.out) hb); have n1_ := Aside0.mk (blk_below (g := gb118) (o := .cells #[.int .i64 0, .int .i64 0, .int .i64 0] 37 (0, 0)) (by (with_reducible repeat (first | refine blk_drewN ?_ _ | refine blk_drew ?_ | refine blk_alloc ?_ _)); refine blk_far ?_ NB118_119.out _; (with_reducible repeat (first | refine blk_drewN ?_ _ | refine blk_drew ?_ | refine blk_alloc ?_ _)); refine blk_far ?_ NB118_119.out _; (with_reducible repeat (first | refine blk_drewN ?_ _ | refine blk_drew ?_ | refine blk_alloc ?_ _)); exact BK118.out) hb); have n2_ := Aside0.mk (blk_below (g := gb119) (o := .cells #[.int .i64 a2_1, .int .i64 a2_2] 64 (0, 0)) (by (with_reducible repeat (first | refine blk_drewN ?_ _ | refine blk_drew ?_ | refine blk_alloc ?_ _)); refine blk_put (cs := #[.int .i64 a2_1, .int .i64 0]) ?_ 1 _ rfl; (with_reducible repeat (first | refine blk_drewN ?_ _ | refine blk_drew ?_ | refine blk_alloc ?_ _)); refine blk_put (cs := #[.int .i64 0, .int .i64 0]) ?_ 0 _ rfl; (with_reducible repeat (first | refine blk_drewN ?_ _ | refine blk_drew ?_ | refine blk_alloc ?_ _)); exact BK119.out) hb); have n3_ := Aside0.mk (below_step (by repeat (first | (with_reducible first | exact HB.out | apply below_alloc | apply pw_below_drewN | apply below_drew1 | refine below_set ?_ GE117.out | refine below_set ?_ GE118.out | refine below_set ?_ GE119.out) | exact HB.out)) hb); clear BK117; clear BK118; clear BK119; clear HB; have BK117 := n0_; have BK118 := n1_; have BK119 := n2_; have HB := n3_; clear n0_ n1_ n2_ n3_; (try clear hb); (try clear hb2); (try clear hk); (try clear hi)))
            go_meet
            case rel => exact ⟨_, (true), (by first | rfl | (simp; done) | (simp [*]; done) | exact congrArg (Value.int _) (by unfold wrap64; omega)), H', ⟨by first | omega | exact Nat.le_refl _⟩, ⟨by (with_reducible repeat (first | refine blk_drewN ?_ _ | refine blk_drew ?_ | refine blk_alloc ?_ _)); exact BK117.out⟩, ⟨by (with_reducible repeat (first | refine blk_drewN ?_ _ | refine blk_drew ?_ | refine blk_alloc ?_ _)); exact BK118.out⟩, ⟨by (with_reducible repeat (first | refine blk_drewN ?_ _ | refine blk_drew ?_ | refine blk_alloc ?_ _)); exact BK119.out⟩, ⟨by repeat (first | (with_reducible first | exact HB.out | apply below_alloc | apply pw_below_drewN | apply below_drew1 | refine below_set ?_ GE117.out | refine below_set ?_ GE118.out | refine below_set ?_ GE119.out) | exact HB.out)⟩⟩
          · rw [if_neg c19] at H
            have c19b0 : decide (a3 < 1) = false := decide_eq_false c19
            clear c19
            have H' := Aside0.mk H
            clear H
            have hnb24 := NB119_117.out
            have hnc24 := NB117_119.out
            have hnb25 := NB119_118.out
            have hnc25 := NB118_119.out
            have hcz26_0 : w11.cell? ⟨gb119, 0, none⟩ = some (.int .i64 0) := (blk_cell BK119.out 0).trans rfl
            have hcz26_1 : w11.cell? ⟨gb119, 1, none⟩ = some (.int .i64 0) := (blk_cell BK119.out 1).trans rfl
            have hfz26_0 := blk_frozen BK119.out 0
            have hfz26_1 := blk_frozen BK119.out 1
            go_wp2_with (first | (go_at_call 31; (with_reducible refine (score_weights_valid.calls a2_1 a2_2 true _ A17.out).mono ?_); rintro e w27 ⟨rfl, hb⟩; have n0_ := Aside0.mk (blk_below (g := gb117) (o := .cells #[.int .i64 a2_0, .int .i64 a2_1, .int .i64 a2_2] 42 (0, 0)) (by (with_reducible repeat (first | refine blk_drewN ?_ _ | refine blk_drew ?_ | refine blk_alloc ?_ _)); refine blk_far ?_ NB117_119.out _; (with_reducible repeat (first | refine blk_drewN ?_ _ | refine blk_drew ?_ | refine blk_alloc ?_ _)); refine blk_far ?_ NB117_119.out _; (with_reducible repeat (first | refine blk_drewN ?_ _ | refine blk_drew ?_ | refine blk_alloc ?_ _)); exact BK117.out) hb); have n1_ := Aside0.mk (blk_below (g := gb118) (o := .cells #[.int .i64 0, .int .i64 0, .int .i64 0] 37 (0, 0)) (by (with_reducible repeat (first | refine blk_drewN ?_ _ | refine blk_drew ?_ | refine blk_alloc ?_ _)); refine blk_far ?_ NB118_119.out _; (with_reducible repeat (first | refine blk_drewN ?_ _ | refine blk_drew ?_ | refine blk_alloc ?_ _)); refine blk_far ?_ NB118_119.out _; (with_reducible repeat (first | refine blk_drewN ?_ _ | refine blk_drew ?_ | refine blk_alloc ?_ _)); exact BK118.out) hb); have n2_ := Aside0.mk (blk_below (g := gb119) (o := .cells #[.int .i64 a2_1, .int .i64 a2_2] 64 (0, 0)) (by (with_reducible repeat (first | refine blk_drewN ?_ _ | refine blk_drew ?_ | refine blk_alloc ?_ _)); refine blk_put (cs := #[.int .i64 a2_1, .int .i64 0]) ?_ 1 _ rfl; (with_reducible repeat (first | refine blk_drewN ?_ _ | refine blk_drew ?_ | refine blk_alloc ?_ _)); refine blk_put (cs := #[.int .i64 0, .int .i64 0]) ?_ 0 _ rfl; (with_reducible repeat (first | refine blk_drewN ?_ _ | refine blk_drew ?_ | refine blk_alloc ?_ _)); exact BK119.out) hb); have n3_ := Aside0.mk (below_step (by repeat (first | (with_reducible first | exact HB.out | apply below_alloc | apply pw_below_drewN | apply below_drew1 | refine below_set ?_ GE117.out | refine below_set ?_ GE118.out | refine below_set ?_ GE119.out) | exact HB.out)) hb); clear BK117; clear BK118; clear BK119; clear HB; have BK117 := n0_; have BK118 := n1_; have BK119 := n2_; have HB := n3_; clear n0_ n1_ n2_ n3_; (try clear hb); (try clear hb2); (try clear hk); (try clear hi)))
            go_meet
            case rel => exact ⟨_, (decide (a3 > 1048576)), (by first | rfl | (simp; done) | (simp [*]; done) | exact congrArg (Value.int _) (by unfold wrap64; omega)), H', ⟨by first | omega | exact Nat.le_refl _⟩, ⟨by (with_reducible repeat (first | refine blk_drewN ?_ _ | refine blk_drew ?_ | refine blk_alloc ?_ _)); exact BK117.out⟩, ⟨by (with_reducible repeat (first | refine blk_drewN ?_ _ | refine blk_drew ?_ | refine blk_alloc ?_ _)); exact BK118.out⟩, ⟨by (with_reducible repeat (first | refine blk_drewN ?_ _ | refine blk_drew ?_ | refine blk_alloc ?_ _)); exact BK119.out⟩, ⟨by repeat (first | (with_reducible first | exact HB.out | apply below_alloc | apply pw_below_drewN | apply below_drew1 | refine below_set ?_ GE117.out | refine below_set ?_ GE118.out | refine below_set ?_ GE119.out) | exact HB.out)⟩⟩
        · replace c18 := Bool.eq_false_iff.mpr c18
          subst c18
          have H1 : (score_Of.j0 k l0 a1 a3 a4 true a2_1 a2_2) = some (r1, r2, r3, r4) := by rw [if_neg (show ¬ (false = true) by decide)] at H; exact H
          clear H
          have H := H1
          clear H1
          have H' := Aside0.mk H
          clear H
          have hnb28 := NB119_117.out
          have hnc28 := NB117_119.out
          have hnb29 := NB119_118.out
          have hnc29 := NB118_119.out
          have hcz30_0 : w11.cell? ⟨gb119, 0, none⟩ = some (.int .i64 0) := (blk_cell BK119.out 0).trans rfl
          have hcz30_1 : w11.cell? ⟨gb119, 1, none⟩ = some (.int .i64 0) := (blk_cell BK119.out 1).trans rfl
          have hfz30_0 := blk_frozen BK119.out 0
          have hfz30_1 := blk_frozen BK119.out 1
          go_wp2_with (first | (go_at_call 31; (with_reducible refine (score_weights_valid.calls a2_1 a2_2 false _ A17.out).mono ?_); rintro e w31 ⟨rfl, hb⟩; have n0_ := Aside0.mk (blk_below (g := gb117) (o := .cells #[.int .i64 a2_0, .int .i64 a2_1, .int .i64 a2_2] 42 (0, 0)) (by (with_reducible repeat (first | refine blk_drewN ?_ _ | refine blk_drew ?_ | refine blk_alloc ?_ _)); refine blk_far ?_ NB117_119.out _; (with_reducible repeat (first | refine blk_drewN ?_ _ | refine blk_drew ?_ | refine blk_alloc ?_ _)); refine blk_far ?_ NB117_119.out _; (with_reducible repeat (first | refine blk_drewN ?_ _ | refine blk_drew ?_ | refine blk_alloc ?_ _)); exact BK117.out) hb); have n1_ := Aside0.mk (blk_below (g := gb118) (o := .cells #[.int .i64 0, .int .i64 0, .int .i64 0] 37 (0, 0)) (by (with_reducible repeat (first | refine blk_drewN ?_ _ | refine blk_drew ?_ | refine blk_alloc ?_ _)); refine blk_far ?_ NB118_119.out _; (with_reducible repeat (first | refine blk_drewN ?_ _ | refine blk_drew ?_ | refine blk_alloc ?_ _)); refine blk_far ?_ NB118_119.out _; (with_reducible repeat (first | refine blk_drewN ?_ _ | refine blk_drew ?_ | refine blk_alloc ?_ _)); exact BK118.out) hb); have n2_ := Aside0.mk (blk_below (g := gb119) (o := .cells #[.int .i64 a2_1, .int .i64 a2_2] 64 (0, 0)) (by (with_reducible repeat (first | refine blk_drewN ?_ _ | refine blk_drew ?_ | refine blk_alloc ?_ _)); refine blk_put (cs := #[.int .i64 a2_1, .int .i64 0]) ?_ 1 _ rfl; (with_reducible repeat (first | refine blk_drewN ?_ _ | refine blk_drew ?_ | refine blk_alloc ?_ _)); refine blk_put (cs := #[.int .i64 0, .int .i64 0]) ?_ 0 _ rfl; (with_reducible repeat (first | refine blk_drewN ?_ _ | refine blk_drew ?_ | refine blk_alloc ?_ _)); exact BK119.out) hb); have n3_ := Aside0.mk (below_step (by repeat (first | (with_reducible first | exact HB.out | apply below_alloc | apply pw_below_drewN | apply below_drew1 | refine below_set ?_ GE117.out | refine below_set ?_ GE118.out | refine below_set ?_ GE119.out) | exact HB.out)) hb); clear BK117; clear BK118; clear BK119; clear HB; have BK117 := n0_; have BK118 := n1_; have BK119 := n2_; have HB := n3_; clear n0_ n1_ n2_ n3_; (try clear hb); (try clear hb2); (try clear hk); (try clear hi)))
          go_meet
          case rel => exact ⟨_, (true), (by first | rfl | (simp; done) | (simp [*]; done) | exact congrArg (Value.int _) (by unfold wrap64; omega)), H', ⟨by first | omega | exact Nat.le_refl _⟩, ⟨by (with_reducible repeat (first | refine blk_drewN ?_ _ | refine blk_drew ?_ | refine blk_alloc ?_ _)); exact BK117.out⟩, ⟨by (with_reducible repeat (first | refine blk_drewN ?_ _ | refine blk_drew ?_ | refine blk_alloc ?_ _)); exact BK118.out⟩, ⟨by (with_reducible repeat (first | refine blk_drewN ?_ _ | refine blk_drew ?_ | refine blk_alloc ?_ _)); exact BK119.out⟩, ⟨by repeat (first | (with_reducible first | exact HB.out | apply below_alloc | apply pw_below_drewN | apply below_drew1 | refine below_set ?_ GE117.out | refine below_set ?_ GE118.out | refine below_set ?_ GE119.out) | exact HB.out)⟩⟩
  case rest =>
    clear HC6
    try clear c1
    try clear c2
    try clear p2
    try clear p6
    try clear c9
    try clear c12
    try clear c13
    try clear c15
    try clear c15b0
    try clear c16
    try clear c16b0
    try clear c18
    try clear c19
    try clear c19b0
    try clear c20
    try clear c21
    try clear c24
    try clear c25
    try clear c28
    try clear c29
    try clear hcz10_0
    try clear hcz10_1
    try clear hcz10_2
    try clear hcz14_0
    try clear hcz14_1
    try clear hcz22_0
    try clear hcz22_1
    try clear hcz26_0
    try clear hcz26_1
    try clear hcz30_0
    try clear hcz30_1
    try clear hfz10_0
    try clear hfz10_1
    try clear hfz10_2
    try clear hfz14_0
    try clear hfz14_1
    try clear hfz22_0
    try clear hfz22_1
    try clear hfz26_0
    try clear hfz26_1
    try clear hfz30_0
    try clear hfz30_1
    obtain ⟨kq, x44_5, rfl, HA, HJ5, BK117, BK118, BK119, HB⟩ := hcut
    cases kq with
    | zero => exact absurd HA.out (by simp [score_Of.j0])
    | succ kj5 =>
      have H := HA.out
      clear HA
      simp only [score_Of.j0] at H
      by_cases c32 : x44_5 = true
      · subst c32
        have H1 : (some (0, 0, 0, false)) = some (r1, r2, r3, r4) := by rw [if_pos rfl] at H; exact H
        clear H
        have H := H1
        clear H1
        simp only [Option.some.injEq, Prod.mk.injEq] at H
        obtain ⟨rfl, rfl, rfl, rfl⟩ := H
        have hnb33 := NB118_117.out
        have hnc33 := NB117_118.out
        have hnb34 := NB118_119.out
        have hnc34 := NB119_118.out
        have hcz35_0 : wc.cell? ⟨gb118, 0, none⟩ = some (.int .i64 0) := (blk_cell BK118.out 0).trans rfl
        have hcz35_1 : wc.cell? ⟨gb118, 1, none⟩ = some (.int .i64 0) := (blk_cell BK118.out 1).trans rfl
        have hcz35_2 : wc.cell? ⟨gb118, 2, none⟩ = some (.int .i64 0) := (blk_cell BK118.out 2).trans rfl
        have hfz35_0 := blk_frozen BK118.out 0
        have hfz35_1 := blk_frozen BK118.out 1
        have hfz35_2 := blk_frozen BK118.out 2
        go_wp2
        refine bodyPost_ret (results_ct rfl _ _ gb118 37 #[.int .i64 0, .int .i64 0, .int .i64 0] (0, 0) _ rfl (by (with_reducible repeat (first | refine blk_drewN ?_ _ | refine blk_drew ?_ | refine blk_alloc ?_ _)); refine blk_put (cs := #[.int .i64 0, .int .i64 0, .int .i64 0]) ?_ 2 _ rfl; (with_reducible repeat (first | refine blk_drewN ?_ _ | refine blk_drew ?_ | refine blk_alloc ?_ _)); refine blk_put (cs := #[.int .i64 0, .int .i64 0, .int .i64 0]) ?_ 1 _ rfl; (with_reducible repeat (first | refine blk_drewN ?_ _ | refine blk_drew ?_ | refine blk_alloc ?_ _)); refine blk_put (cs := #[.int .i64 0, .int .i64 0, .int .i64 0]) ?_ 0 _ rfl; (with_reducible repeat (first | refine blk_drewN ?_ _ | refine blk_drew ?_ | refine blk_alloc ?_ _)); exact BK118.out) Try.underlying37 rfl (by kernel_rfl)) rfl ?_
        exact ⟨by first | rfl | (simp [errW_none, errW_some] <;> rfl) | (simp [*, errW_none, errW_some] <;> rfl), by repeat (first | (with_reducible first | exact HB.out | apply below_alloc | apply pw_below_drewN | apply below_drew1 | refine below_set ?_ GE117.out | refine below_set ?_ GE118.out | refine below_set ?_ GE119.out) | exact HB.out)⟩
      · replace c32 := Bool.eq_false_iff.mpr c32
        subst c32
        have H1 : (if 0 ≤ (wrap64 (a1 + 1)) then (if (wrap64 (a1 + 1)) ≤ (l0.length : Int) then ((some (l0.take ((wrap64 (a1 + 1)) : Int).toNat : List (S34))).bind fun y121 => (score_Of.l0 kj5 l0 a1 a3 a4 y121 (y121.length : Int) 0 a2_1 a2_2)) else (none)) else (none)) = some (r1, r2, r3, r4) := by rw [if_neg (show ¬ (false = true) by decide)] at H; exact H
        clear H
        have H := H1
        clear H1
        obtain ⟨ji36, hji36⟩ : ∃ j_ : Int, (wrap64 (a1 + 1)) = j_ := ⟨_, rfl⟩
        replace H : (if 0 ≤ (ji36) then (if (ji36) ≤ (l0.length : Int) then ((some (l0.take ((ji36) : Int).toNat : List (S34))).bind fun y121 => (score_Of.l0 kj5 l0 a1 a3 a4 y121 (y121.length : Int) 0 a2_1 a2_2)) else (none)) else (none)) = some (r1, r2, r3, r4) := by first | (rw [hji36] at H; exact H) | (simp only [hji36] at H ⊢; exact H)
        have hji36w : (IntKind.i64.wrap (a1 + 1)) = ji36 := (i64_w _).trans hji36
        by_cases c37 : 0 ≤ (ji36)
        · rw [if_pos c37] at H
          have c37b0 := eq_true c37
          have c37b1 : decide (0 ≤ (ji36)) = true := decide_eq_true c37
          clear c37
          by_cases c38 : (ji36) ≤ (l0.length : Int)
          · rw [if_pos c38] at H
            have c38b0 := eq_true c38
            have c38b1 : decide ((ji36) ≤ (l0.length : Int)) = true := decide_eq_true c38
            clear c38
            obtain ⟨y121, hy121⟩ : ∃ y_ : List (S34), y_ = (l0.take ((ji36) : Int).toNat) := ⟨_, rfl⟩
            replace H : (score_Of.l0 kj5 l0 a1 a3 a4 y121 (y121.length : Int) 0 a2_1 a2_2) = some (r1, r2, r3, r4) := by first | (rw [hy121]; with_reducible exact H) | (have H2_ := (Option.bind_some _ _).symm.trans H; rw [hy121]; with_reducible exact H2_) | (have H2_ := (Option.bind_some _ _).symm.trans H; with_reducible exact H2_) | with_reducible exact H | (rw [hy121]; exact H) | exact H
            have Ny121 := Aside0.mk hy121
            clear hy121
            have H' := Aside0.mk H
            clear H
            have q39 : ((ji36) : Int) ≤ ((l0.length : Int) : Int) := of_decide_eq_true (by first | (with_reducible assumption) | assumption)
            obtain ⟨i039, hi039, _, hsz39, _⟩ := info_parts info34
            have hroom39 : l0.length ≤ c0 := HC0.out
            have hC39 : Kd.C k34 _ A0 l0.length l0 := HR0.out
            have hcut39 := cut_to (P := Try.prog) 25 34 .i64 Try.underlying25 hi039 A0 l0.length c0 (ji36) (of_decide_eq_true (by first | (with_reducible assumption) | assumption)) q39 hroom39
            have hr39 := Kd.C_take (m := ((ji36) : Int).toNat) hC39 (by omega)
            have hy39 : y121.length = ((ji36) : Int).toNat := (by rw [Ny121.out, List.length_take]; omega)
            rw [← Ny121.out] at hr39
            rw [← hy39] at hcut39
            have HR124 := Aside0.mk hr39
            have HC124 := Aside0.mk (show y121.length ≤ c0 from by omega)
            clear hr39 hC39 hroom39 hi039 hsz39
            have KY39 := Aside0.mk hy39
            clear hy39
            replace q39 := eq_true q39
            go_wp2
            go_loopg [51] kj5 (fun kq v51 w' => ∃ (x51_2 : Int) (x119000_2 : Int) (x119001_2 : Int) (x119002_2 : Int), v51 = .int .i64 x51_2 ∧ Aside0 (score_Of.l0 kq l0 a1 a3 a4 y121 (y121.length : Int) x51_2 a2_1 a2_2 = some (r1, r2, r3, r4)) ∧ Aside0 (kq ≤ kj5) ∧ Aside0 (w'.heap[gb117]? = some (.cells #[.int .i64 a2_0, .int .i64 a2_1, .int .i64 a2_2] 42 (0, 0))) ∧ Aside0 (w'.heap[gb118]? = some (.cells #[.int .i64 x119000_2, .int .i64 x119001_2, .int .i64 x119002_2] 37 (0, 0))) ∧ Aside0 (w'.heap[gb119]? = some (.cells #[.int .i64 a2_1, .int .i64 a2_2] 64 (0, 0))) ∧ Aside0 (Below w.heap.size w w'))
            case atStart => exact ⟨(0), (0), (0), (0), (by first | rfl | (simp; done) | (simp [*]; done) | exact congrArg (Value.int _) (by unfold wrap64; omega)), H', ⟨Nat.le_refl _⟩, ⟨by (with_reducible repeat (first | refine blk_drewN ?_ _ | refine blk_drew ?_ | refine blk_alloc ?_ _)); exact BK117.out⟩, ⟨by (with_reducible repeat (first | refine blk_drewN ?_ _ | refine blk_drew ?_ | refine blk_alloc ?_ _)); exact BK118.out⟩, ⟨by (with_reducible repeat (first | refine blk_drewN ?_ _ | refine blk_drew ?_ | refine blk_alloc ?_ _)); exact BK119.out⟩, ⟨by repeat (first | (with_reducible first | exact HB.out | apply below_alloc | apply pw_below_drewN | apply below_drew1 | refine below_set ?_ GE117.out | refine below_set ?_ GE118.out | refine below_set ?_ GE119.out) | exact HB.out)⟩⟩
            case round =>
              clear H'
              try clear c1
              try clear c2
              try clear p2
              try clear c3
              try clear q3
              try clear p6
              try clear c9
              try clear c12
              try clear c13
              try clear c15
              try clear c15b0
              try clear c16
              try clear c16b0
              try clear c18
              try clear c19
              try clear c19b0
              try clear c20
              try clear c21
              try clear c24
              try clear c25
              try clear c28
              try clear c29
              try clear c32
              try clear c33
              try clear c34
              try clear c37
              try clear c37b0
              try clear c37b1
              try clear c38
              try clear c38b0
              try clear c38b1
              try clear q39
              try clear hcz10_0
              try clear hcz10_1
              try clear hcz10_2
              try clear hcz14_0
              try clear hcz14_1
              try clear hcz22_0
              try clear hcz22_1
              try clear hcz26_0
              try clear hcz26_1
              try clear hcz30_0
              try clear hcz30_1
              try clear hcz35_0
              try clear hcz35_1
              try clear hcz35_2
              try clear hfz10_0
              try clear hfz10_1
              try clear hfz10_2
              try clear hfz14_0
              try clear hfz14_1
              try clear hfz22_0
              try clear hfz22_1
              try clear hfz26_0
              try clear hfz26_1
              try clear hfz30_0
              try clear hfz30_1
              try clear hfz35_0
              try clear hfz35_1
              try clear hfz35_2
              try clear p2
              try clear p6
              try clear q39
              obtain ⟨x51_2, x119000_2, x119001_2, x119002_2, rfl, HA, HK2, BK117, BK118, BK119, HB⟩ := hrel
              cases gk with
              | zero => exact absurd HA.out (by simp [score_Of.l0])
              | succ k2 =>
                have H := HA.out
                clear HA
                simp only [score_Of.l0] at H
                by_cases c40 : x51_2 < (y121.length : Int)
                · rw [if_pos c40] at H
                  have c40b0 : decide (x51_2 < (y121.length : Int)) = true := decide_eq_true c40
                  clear c40
                  by_cases c41 : 0 ≤ x51_2
                  · rw [if_pos c41] at H
                    have c41b0 : decide (0 ≤ x51_2) = true := decide_eq_true c41
                    clear c41
                    by_cases c42 : x51_2 < (y121.length : Int)
                    · rw [if_pos c42] at H
                      have c42b0 : decide (x51_2 < (y121.length : Int)) = true := decide_eq_true c42
                      clear c42
                      by_cases c43 : ((rd_T34 y121 x51_2).f1) < 0
                      · rw [if_pos c43] at H
                        have c43b0 : decide (((rd_T34 y121 x51_2).f1) < 0) = true := decide_eq_true c43
                        clear c43
                        simp only [Option.some.injEq, Prod.mk.injEq] at H
                        obtain ⟨rfl, rfl, rfl, rfl⟩ := H
                        have p125 : 0 ≤ (x51_2 : Int) := of_decide_eq_true (by first | (with_reducible assumption) | assumption)
                        have q125 : x51_2 < (y121.length : Int) := of_decide_eq_true (by first | (with_reducible assumption) | assumption)
                        obtain ⟨ad125, e125, hx125_0, hx125_1, hx125_2, hx125_3, hx125_4, hx125_5, hx125_6, hx125_7, hx125_8, hx125_9⟩ := at_T34 HR124.out x51_2 p125 q125
                        cases e125
                        replace hx125_0 := (HB.out.cell (World.block_lt_of_cell? w _ hx125_0)).trans hx125_0
                        replace hx125_1 := (HB.out.cell (World.block_lt_of_cell? w _ hx125_1)).trans hx125_1
                        replace hx125_2 := (HB.out.cell (World.block_lt_of_cell? w _ hx125_2)).trans hx125_2
                        replace hx125_3 := (HB.out.cell (World.block_lt_of_cell? w _ hx125_3)).trans hx125_3
                        replace hx125_4 := (HB.out.cell (World.block_lt_of_cell? w _ hx125_4)).trans hx125_4
                        replace hx125_5 := (HB.out.cell (World.block_lt_of_cell? w _ hx125_5)).trans hx125_5
                        replace hx125_6 := (HB.out.cell (World.block_lt_of_cell? w _ hx125_6)).trans hx125_6
                        replace hx125_7 := (HB.out.cell (World.block_lt_of_cell? w _ hx125_7)).trans hx125_7
                        replace hx125_8 := (HB.out.cell (World.block_lt_of_cell? w _ hx125_8)).trans hx125_8
                        replace hx125_9 := (HB.out.cell (World.block_lt_of_cell? w _ hx125_9)).trans hx125_9
                        replace p125 := eq_true p125
                        replace q125 := eq_true q125
                        go_wp2_with (first | ((with_reducible refine gate_dst (N := 14) rfl ?_); (try (refine gate_guard (by rfl) ?_; dsimp only)); refine box_event ?hg (N := 14) ?hd (cs := #[.string (⟨#[]⟩ : ByteArray), .string (⟨#[]⟩ : ByteArray), .int .i64 0, .int .i64 0, .int .i64 0, .int .i64 0, .int .i64 0, .int .i64 0, .int .i64 0, .bool false]) (t := 34) ?hr ?_; (case hd => rfl); (case hg => rfl); (case hr => first | (go_simp; done) | (go_simp; rfl)); intro gb126 hg w44 hbox hb; have n0_ := Aside0.mk (blk_below (g := gb117) (o := .cells #[.int .i64 a2_0, .int .i64 a2_1, .int .i64 a2_2] 42 (0, 0)) (by (with_reducible repeat (first | refine blk_drewN ?_ _ | refine blk_drew ?_ | refine blk_alloc ?_ _)); exact BK117.out) hb); have n1_ := Aside0.mk (blk_below (g := gb118) (o := .cells #[.int .i64 x119000_2, .int .i64 x119001_2, .int .i64 x119002_2] 37 (0, 0)) (by (with_reducible repeat (first | refine blk_drewN ?_ _ | refine blk_drew ?_ | refine blk_alloc ?_ _)); exact BK118.out) hb); have n2_ := Aside0.mk (blk_below (g := gb119) (o := .cells #[.int .i64 a2_1, .int .i64 a2_2] 64 (0, 0)) (by (with_reducible repeat (first | refine blk_drewN ?_ _ | refine blk_drew ?_ | refine blk_alloc ?_ _)); exact BK119.out) hb); have n3_ := Aside0.mk (below_step (by repeat (first | (with_reducible first | exact HB.out | apply below_alloc | apply pw_below_drewN | apply below_drew1 | refine below_set ?_ GE117.out | refine below_set ?_ GE118.out | refine below_set ?_ GE119.out) | exact HB.out)) hb); have n4_ := Aside0.mk (hbox); have n5_ := Aside0.mk ((by rw [hg]; exact (below_size (by repeat (first | (with_reducible first | exact HB.out | apply below_alloc | apply pw_below_drewN | apply below_drew1 | refine below_set ?_ GE117.out | refine below_set ?_ GE118.out | refine below_set ?_ GE119.out) | exact HB.out))) : w.heap.size ≤ gb126)); have n6_ := Aside0.mk ((by rw [hg]; exact (below_size (by repeat (first | (with_reducible first | exact HB.out | apply below_alloc | apply pw_below_drewN | apply below_drew1 | refine below_set ?_ GE117.out | refine below_set ?_ GE118.out | refine below_set ?_ GE119.out) | exact HB.out))) : w.heap.size ≤ gb126)); have n7_ := Aside0.mk ((by rw [hg]; exact Nat.ne_of_lt (blk_lt (g := gb117) (o := .cells #[.int .i64 a2_0, .int .i64 a2_1, .int .i64 a2_2] 42 (0, 0)) (by (with_reducible repeat (first | refine blk_drewN ?_ _ | refine blk_drew ?_ | refine blk_alloc ?_ _)); exact BK117.out)) : gb117 ≠ gb126)); have n8_ := Aside0.mk ((by rw [hg]; exact Nat.ne_of_gt (blk_lt (g := gb117) (o := .cells #[.int .i64 a2_0, .int .i64 a2_1, .int .i64 a2_2] 42 (0, 0)) (by (with_reducible repeat (first | refine blk_drewN ?_ _ | refine blk_drew ?_ | refine blk_alloc ?_ _)); exact BK117.out)) : gb126 ≠ gb117)); have n9_ := Aside0.mk ((by rw [hg]; exact Nat.ne_of_lt (blk_lt (g := gb118) (o := .cells #[.int .i64 x119000_2, .int .i64 x119001_2, .int .i64 x119002_2] 37 (0, 0)) (by (with_reducible repeat (first | refine blk_drewN ?_ _ | refine blk_drew ?_ | refine blk_alloc ?_ _)); exact BK118.out)) : gb118 ≠ gb126)); have n10_ := Aside0.mk ((by rw [hg]; exact Nat.ne_of_gt (blk_lt (g := gb118) (o := .cells #[.int .i64 x119000_2, .int .i64 x119001_2, .int .i64 x119002_2] 37 (0, 0)) (by (with_reducible repeat (first | refine blk_drewN ?_ _ | refine blk_drew ?_ | refine blk_alloc ?_ _)); exact BK118.out)) : gb126 ≠ gb118)); have n11_ := Aside0.mk ((by rw [hg]; exact Nat.ne_of_lt (blk_lt (g := gb119) (o := .cells #[.int .i64 a2_1, .int .i64 a2_2] 64 (0, 0)) (by (with_reducible repeat (first | refine blk_drewN ?_ _ | refine blk_drew ?_ | refine blk_alloc ?_ _)); exact BK119.out)) : gb119 ≠ gb126)); have n12_ := Aside0.mk ((by rw [hg]; exact Nat.ne_of_gt (blk_lt (g := gb119) (o := .cells #[.int .i64 a2_1, .int .i64 a2_2] 64 (0, 0)) (by (with_reducible repeat (first | refine blk_drewN ?_ _ | refine blk_drew ?_ | refine blk_alloc ?_ _)); exact BK119.out)) : gb126 ≠ gb119)); clear BK117; clear BK118; clear BK119; clear HB; have BK117 := n0_; have BK118 := n1_; have BK119 := n2_; have HB := n3_; have BK126 := n4_; have GW126 := n5_; have GE126 := n6_; have NB117_126 := n7_; have NB126_117 := n8_; have NB118_126 := n9_; have NB126_118 := n10_; have NB119_126 := n11_; have NB126_119 := n12_; clear n0_ n1_ n2_ n3_ n4_ n5_ n6_ n7_ n8_ n9_ n10_ n11_ n12_; clear hb hbox hg; have hnb45 := NB126_117.out; have hnc45 := NB117_126.out; have hnb46 := NB126_118.out; have hnc46 := NB118_126.out; have hnb47 := NB126_119.out; have hnc47 := NB119_126.out; have hcz48_0 : w44.cell? ⟨gb126, 0, none⟩ = some (.string (⟨#[]⟩ : ByteArray)) := (blk_cell BK126.out 0).trans rfl; have hcz48_1 : w44.cell? ⟨gb126, 1, none⟩ = some (.string (⟨#[]⟩ : ByteArray)) := (blk_cell BK126.out 1).trans rfl; have hcz48_2 : w44.cell? ⟨gb126, 2, none⟩ = some (.int .i64 0) := (blk_cell BK126.out 2).trans rfl; have hcz48_3 : w44.cell? ⟨gb126, 3, none⟩ = some (.int .i64 0) := (blk_cell BK126.out 3).trans rfl; have hcz48_4 : w44.cell? ⟨gb126, 4, none⟩ = some (.int .i64 0) := (blk_cell BK126.out 4).trans rfl; have hcz48_5 : w44.cell? ⟨gb126, 5, none⟩ = some (.int .i64 0) := (blk_cell BK126.out 5).trans rfl; have hcz48_6 : w44.cell? ⟨gb126, 6, none⟩ = some (.int .i64 0) := (blk_cell BK126.out 6).trans rfl; have hcz48_7 : w44.cell? ⟨gb126, 7, none⟩ = some (.int .i64 0) := (blk_cell BK126.out 7).trans rfl; have hcz48_8 : w44.cell? ⟨gb126, 8, none⟩ = some (.int .i64 0) := (blk_cell BK126.out 8).trans rfl; have hcz48_9 : w44.cell? ⟨gb126, 9, none⟩ = some (.bool false) := (blk_cell BK126.out 9).trans rfl; have hfz48_0 := blk_frozen BK126.out 0; have hfz48_1 := blk_frozen BK126.out 1; have hfz48_2 := blk_frozen BK126.out 2; have hfz48_3 := blk_frozen BK126.out 3; have hfz48_4 := blk_frozen BK126.out 4; have hfz48_5 := blk_frozen BK126.out 5; have hfz48_6 := blk_frozen BK126.out 6; have hfz48_7 := blk_frozen BK126.out 7; have hfz48_8 := blk_frozen BK126.out 8; have hfz48_9 := blk_frozen BK126.out 9; have hnb49 := NB118_117.out; have hnc49 := NB117_118.out; have hnb50 := NB118_119.out; have hnc50 := NB119_118.out; have hcz51_0 : w44.cell? ⟨gb118, 0, none⟩ = some (.int .i64 x119000_2) := (blk_cell BK118.out 0).trans rfl; have hcz51_1 : w44.cell? ⟨gb118, 1, none⟩ = some (.int .i64 x119001_2) := (blk_cell BK118.out 1).trans rfl; have hcz51_2 : w44.cell? ⟨gb118, 2, none⟩ = some (.int .i64 x119002_2) := (blk_cell BK118.out 2).trans rfl; have hfz51_0 := blk_frozen BK118.out 0; have hfz51_1 := blk_frozen BK118.out 1; have hfz51_2 := blk_frozen BK118.out 2))
                        refine bodyPost_ret (results_ct rfl _ _ gb118 37 #[.int .i64 0, .int .i64 0, .int .i64 0] (0, 0) _ rfl (by (with_reducible repeat (first | refine blk_drewN ?_ _ | refine blk_drew ?_ | refine blk_alloc ?_ _)); refine blk_put (cs := #[.int .i64 0, .int .i64 0, .int .i64 x119002_2]) ?_ 2 _ rfl; (with_reducible repeat (first | refine blk_drewN ?_ _ | refine blk_drew ?_ | refine blk_alloc ?_ _)); refine blk_put (cs := #[.int .i64 0, .int .i64 x119001_2, .int .i64 x119002_2]) ?_ 1 _ rfl; (with_reducible repeat (first | refine blk_drewN ?_ _ | refine blk_drew ?_ | refine blk_alloc ?_ _)); refine blk_put (cs := #[.int .i64 x119000_2, .int .i64 x119001_2, .int .i64 x119002_2]) ?_ 0 _ rfl; (with_reducible repeat (first | refine blk_drewN ?_ _ | refine blk_drew ?_ | refine blk_alloc ?_ _)); refine blk_far ?_ NB118_126.out _; (with_reducible repeat (first | refine blk_drewN ?_ _ | refine blk_drew ?_ | refine blk_alloc ?_ _)); refine blk_far ?_ NB118_126.out _; (with_reducible repeat (first | refine blk_drewN ?_ _ | refine blk_drew ?_ | refine blk_alloc ?_ _)); refine blk_far ?_ NB118_126.out _; (with_reducible repeat (first | refine blk_drewN ?_ _ | refine blk_drew ?_ | refine blk_alloc ?_ _)); refine blk_far ?_ NB118_126.out _; (with_reducible repeat (first | refine blk_drewN ?_ _ | refine blk_drew ?_ | refine blk_alloc ?_ _)); refine blk_far ?_ NB118_126.out _; (with_reducible repeat (first | refine blk_drewN ?_ _ | refine blk_drew ?_ | refine blk_alloc ?_ _)); refine blk_far ?_ NB118_126.out _; (with_reducible repeat (first | refine blk_drewN ?_ _ | refine blk_drew ?_ | refine blk_alloc ?_ _)); refine blk_far ?_ NB118_126.out _; (with_reducible repeat (first | refine blk_drewN ?_ _ | refine blk_drew ?_ | refine blk_alloc ?_ _)); refine blk_far ?_ NB118_126.out _; (with_reducible repeat (first | refine blk_drewN ?_ _ | refine blk_drew ?_ | refine blk_alloc ?_ _)); refine blk_far ?_ NB118_126.out _; (with_reducible repeat (first | refine blk_drewN ?_ _ | refine blk_drew ?_ | refine blk_alloc ?_ _)); refine blk_far ?_ NB118_126.out _; (with_reducible repeat (first | refine blk_drewN ?_ _ | refine blk_drew ?_ | refine blk_alloc ?_ _)); exact BK118.out) Try.underlying37 rfl (by kernel_rfl)) rfl ?_
                        exact ⟨by first | rfl | (simp [errW_none, errW_some] <;> rfl) | (simp only [← hji36]; first | rfl | (simp [errW_none, errW_some] <;> rfl)) | (simp [*, errW_none, errW_some] <;> rfl), by repeat (first | (with_reducible first | exact HB.out | apply below_alloc | apply pw_below_drewN | apply below_drew1 | refine below_set ?_ GE117.out | refine below_set ?_ GE118.out | refine below_set ?_ GE119.out | refine below_set ?_ GE126.out) | exact HB.out)⟩
                      · rw [if_neg c43] at H
                        have c43b0 : decide (((rd_T34 y121 x51_2).f1) < 0) = false := decide_eq_false c43
                        clear c43
                        by_cases c52 : ((rd_T34 y121 x51_2).f1) > a3
                        · rw [if_pos c52] at H
                          have c52b0 : decide (a3 < ((rd_T34 y121 x51_2).f1)) = true := decide_eq_true c52
                          clear c52
                          simp only [Option.some.injEq, Prod.mk.injEq] at H
                          obtain ⟨rfl, rfl, rfl, rfl⟩ := H
                          have p125 : 0 ≤ (x51_2 : Int) := of_decide_eq_true (by first | (with_reducible assumption) | assumption)
                          have q125 : x51_2 < (y121.length : Int) := of_decide_eq_true (by first | (with_reducible assumption) | assumption)
                          obtain ⟨ad125, e125, hx125_0, hx125_1, hx125_2, hx125_3, hx125_4, hx125_5, hx125_6, hx125_7, hx125_8, hx125_9⟩ := at_T34 HR124.out x51_2 p125 q125
                          cases e125
                          replace hx125_0 := (HB.out.cell (World.block_lt_of_cell? w _ hx125_0)).trans hx125_0
                          replace hx125_1 := (HB.out.cell (World.block_lt_of_cell? w _ hx125_1)).trans hx125_1
                          replace hx125_2 := (HB.out.cell (World.block_lt_of_cell? w _ hx125_2)).trans hx125_2
                          replace hx125_3 := (HB.out.cell (World.block_lt_of_cell? w _ hx125_3)).trans hx125_3
                          replace hx125_4 := (HB.out.cell (World.block_lt_of_cell? w _ hx125_4)).trans hx125_4
                          replace hx125_5 := (HB.out.cell (World.block_lt_of_cell? w _ hx125_5)).trans hx125_5
                          replace hx125_6 := (HB.out.cell (World.block_lt_of_cell? w _ hx125_6)).trans hx125_6
                          replace hx125_7 := (HB.out.cell (World.block_lt_of_cell? w _ hx125_7)).trans hx125_7
                          replace hx125_8 := (HB.out.cell (World.block_lt_of_cell? w _ hx125_8)).trans hx125_8
                          replace hx125_9 := (HB.out.cell (World.block_lt_of_cell? w _ hx125_9)).trans hx125_9
                          replace p125 := eq_true p125
                          replace q125 := eq_true q125
                          go_wp2_with (first | ((with_reducible refine gate_dst (N := 14) rfl ?_); (try (refine gate_guard (by rfl) ?_; dsimp only)); refine box_event ?hg (N := 14) ?hd (cs := #[.string (⟨#[]⟩ : ByteArray), .string (⟨#[]⟩ : ByteArray), .int .i64 0, .int .i64 0, .int .i64 0, .int .i64 0, .int .i64 0, .int .i64 0, .int .i64 0, .bool false]) (t := 34) ?hr ?_; (case hd => rfl); (case hg => rfl); (case hr => first | (go_simp; done) | (go_simp; rfl)); intro gb126 hg w53 hbox hb; have n0_ := Aside0.mk (blk_below (g := gb117) (o := .cells #[.int .i64 a2_0, .int .i64 a2_1, .int .i64 a2_2] 42 (0, 0)) (by (with_reducible repeat (first | refine blk_drewN ?_ _ | refine blk_drew ?_ | refine blk_alloc ?_ _)); exact BK117.out) hb); have n1_ := Aside0.mk (blk_below (g := gb118) (o := .cells #[.int .i64 x119000_2, .int .i64 x119001_2, .int .i64 x119002_2] 37 (0, 0)) (by (with_reducible repeat (first | refine blk_drewN ?_ _ | refine blk_drew ?_ | refine blk_alloc ?_ _)); exact BK118.out) hb); have n2_ := Aside0.mk (blk_below (g := gb119) (o := .cells #[.int .i64 a2_1, .int .i64 a2_2] 64 (0, 0)) (by (with_reducible repeat (first | refine blk_drewN ?_ _ | refine blk_drew ?_ | refine blk_alloc ?_ _)); exact BK119.out) hb); have n3_ := Aside0.mk (below_step (by repeat (first | (with_reducible first | exact HB.out | apply below_alloc | apply pw_below_drewN | apply below_drew1 | refine below_set ?_ GE117.out | refine below_set ?_ GE118.out | refine below_set ?_ GE119.out) | exact HB.out)) hb); have n4_ := Aside0.mk (hbox); have n5_ := Aside0.mk ((by rw [hg]; exact (below_size (by repeat (first | (with_reducible first | exact HB.out | apply below_alloc | apply pw_below_drewN | apply below_drew1 | refine below_set ?_ GE117.out | refine below_set ?_ GE118.out | refine below_set ?_ GE119.out) | exact HB.out))) : w.heap.size ≤ gb126)); have n6_ := Aside0.mk ((by rw [hg]; exact (below_size (by repeat (first | (with_reducible first | exact HB.out | apply below_alloc | apply pw_below_drewN | apply below_drew1 | refine below_set ?_ GE117.out | refine below_set ?_ GE118.out | refine below_set ?_ GE119.out) | exact HB.out))) : w.heap.size ≤ gb126)); have n7_ := Aside0.mk ((by rw [hg]; exact Nat.ne_of_lt (blk_lt (g := gb117) (o := .cells #[.int .i64 a2_0, .int .i64 a2_1, .int .i64 a2_2] 42 (0, 0)) (by (with_reducible repeat (first | refine blk_drewN ?_ _ | refine blk_drew ?_ | refine blk_alloc ?_ _)); exact BK117.out)) : gb117 ≠ gb126)); have n8_ := Aside0.mk ((by rw [hg]; exact Nat.ne_of_gt (blk_lt (g := gb117) (o := .cells #[.int .i64 a2_0, .int .i64 a2_1, .int .i64 a2_2] 42 (0, 0)) (by (with_reducible repeat (first | refine blk_drewN ?_ _ | refine blk_drew ?_ | refine blk_alloc ?_ _)); exact BK117.out)) : gb126 ≠ gb117)); have n9_ := Aside0.mk ((by rw [hg]; exact Nat.ne_of_lt (blk_lt (g := gb118) (o := .cells #[.int .i64 x119000_2, .int .i64 x119001_2, .int .i64 x119002_2] 37 (0, 0)) (by (with_reducible repeat (first | refine blk_drewN ?_ _ | refine blk_drew ?_ | refine blk_alloc ?_ _)); exact BK118.out)) : gb118 ≠ gb126)); have n10_ := Aside0.mk ((by rw [hg]; exact Nat.ne_of_gt (blk_lt (g := gb118) (o := .cells #[.int .i64 x119000_2, .int .i64 x119001_2, .int .i64 x119002_2] 37 (0, 0)) (by (with_reducible repeat (first | refine blk_drewN ?_ _ | refine blk_drew ?_ | refine blk_alloc ?_ _)); exact BK118.out)) : gb126 ≠ gb118)); have n11_ := Aside0.mk ((by rw [hg]; exact Nat.ne_of_lt (blk_lt (g := gb119) (o := .cells #[.int .i64 a2_1, .int .i64 a2_2] 64 (0, 0)) (by (with_reducible repeat (first | refine blk_drewN ?_ _ | refine blk_drew ?_ | refine blk_alloc ?_ _)); exact BK119.out)) : gb119 ≠ gb126)); have n12_ := Aside0.mk ((by rw [hg]; exact Nat.ne_of_gt (blk_lt (g := gb119) (o := .cells #[.int .i64 a2_1, .int .i64 a2_2] 64 (0, 0)) (by (with_reducible repeat (first | refine blk_drewN ?_ _ | refine blk_drew ?_ | refine blk_alloc ?_ _)); exact BK119.out)) : gb126 ≠ gb119)); clear BK117; clear BK118; clear BK119; clear HB; have BK117 := n0_; have BK118 := n1_; have BK119 := n2_; have HB := n3_; have BK126 := n4_; have GW126 := n5_; have GE126 := n6_; have NB117_126 := n7_; have NB126_117 := n8_; have NB118_126 := n9_; have NB126_118 := n10_; have NB119_126 := n11_; have NB126_119 := n12_; clear n0_ n1_ n2_ n3_ n4_ n5_ n6_ n7_ n8_ n9_ n10_ n11_ n12_; clear hb hbox hg; have hnb54 := NB126_117.out; have hnc54 := NB117_126.out; have hnb55 := NB126_118.out; have hnc55 := NB118_126.out; have hnb56 := NB126_119.out; have hnc56 := NB119_126.out; have hcz57_0 : w53.cell? ⟨gb126, 0, none⟩ = some (.string (⟨#[]⟩ : ByteArray)) := (blk_cell BK126.out 0).trans rfl; have hcz57_1 : w53.cell? ⟨gb126, 1, none⟩ = some (.string (⟨#[]⟩ : ByteArray)) := (blk_cell BK126.out 1).trans rfl; have hcz57_2 : w53.cell? ⟨gb126, 2, none⟩ = some (.int .i64 0) := (blk_cell BK126.out 2).trans rfl; have hcz57_3 : w53.cell? ⟨gb126, 3, none⟩ = some (.int .i64 0) := (blk_cell BK126.out 3).trans rfl; have hcz57_4 : w53.cell? ⟨gb126, 4, none⟩ = some (.int .i64 0) := (blk_cell BK126.out 4).trans rfl; have hcz57_5 : w53.cell? ⟨gb126, 5, none⟩ = some (.int .i64 0) := (blk_cell BK126.out 5).trans rfl; have hcz57_6 : w53.cell? ⟨gb126, 6, none⟩ = some (.int .i64 0) := (blk_cell BK126.out 6).trans rfl; have hcz57_7 : w53.cell? ⟨gb126, 7, none⟩ = some (.int .i64 0) := (blk_cell BK126.out 7).trans rfl; have hcz57_8 : w53.cell? ⟨gb126, 8, none⟩ = some (.int .i64 0) := (blk_cell BK126.out 8).trans rfl; have hcz57_9 : w53.cell? ⟨gb126, 9, none⟩ = some (.bool false) := (blk_cell BK126.out 9).trans rfl; have hfz57_0 := blk_frozen BK126.out 0; have hfz57_1 := blk_frozen BK126.out 1; have hfz57_2 := blk_frozen BK126.out 2; have hfz57_3 := blk_frozen BK126.out 3; have hfz57_4 := blk_frozen BK126.out 4; have hfz57_5 := blk_frozen BK126.out 5; have hfz57_6 := blk_frozen BK126.out 6; have hfz57_7 := blk_frozen BK126.out 7; have hfz57_8 := blk_frozen BK126.out 8; have hfz57_9 := blk_frozen BK126.out 9; have hnb58 := NB118_117.out; have hnc58 := NB117_118.out; have hnb59 := NB118_119.out; have hnc59 := NB119_118.out; have hcz60_0 : w53.cell? ⟨gb118, 0, none⟩ = some (.int .i64 x119000_2) := (blk_cell BK118.out 0).trans rfl; have hcz60_1 : w53.cell? ⟨gb118, 1, none⟩ = some (.int .i64 x119001_2) := (blk_cell BK118.out 1).trans rfl; have hcz60_2 : w53.cell? ⟨gb118, 2, none⟩ = some (.int .i64 x119002_2) := (blk_cell BK118.out 2).trans rfl; have hfz60_0 := blk_frozen BK118.out 0; have hfz60_1 := blk_frozen BK118.out 1; have hfz60_2 := blk_frozen BK118.out 2))
                          refine bodyPost_ret (results_ct rfl _ _ gb118 37 #[.int .i64 0, .int .i64 0, .int .i64 0] (0, 0) _ rfl (by (with_reducible repeat (first | refine blk_drewN ?_ _ | refine blk_drew ?_ | refine blk_alloc ?_ _)); refine blk_put (cs := #[.int .i64 0, .int .i64 0, .int .i64 x119002_2]) ?_ 2 _ rfl; (with_reducible repeat (first | refine blk_drewN ?_ _ | refine blk_drew ?_ | refine blk_alloc ?_ _)); refine blk_put (cs := #[.int .i64 0, .int .i64 x119001_2, .int .i64 x119002_2]) ?_ 1 _ rfl; (with_reducible repeat (first | refine blk_drewN ?_ _ | refine blk_drew ?_ | refine blk_alloc ?_ _)); refine blk_put (cs := #[.int .i64 x119000_2, .int .i64 x119001_2, .int .i64 x119002_2]) ?_ 0 _ rfl; (with_reducible repeat (first | refine blk_drewN ?_ _ | refine blk_drew ?_ | refine blk_alloc ?_ _)); refine blk_far ?_ NB118_126.out _; (with_reducible repeat (first | refine blk_drewN ?_ _ | refine blk_drew ?_ | refine blk_alloc ?_ _)); refine blk_far ?_ NB118_126.out _; (with_reducible repeat (first | refine blk_drewN ?_ _ | refine blk_drew ?_ | refine blk_alloc ?_ _)); refine blk_far ?_ NB118_126.out _; (with_reducible repeat (first | refine blk_drewN ?_ _ | refine blk_drew ?_ | refine blk_alloc ?_ _)); refine blk_far ?_ NB118_126.out _; (with_reducible repeat (first | refine blk_drewN ?_ _ | refine blk_drew ?_ | refine blk_alloc ?_ _)); refine blk_far ?_ NB118_126.out _; (with_reducible repeat (first | refine blk_drewN ?_ _ | refine blk_drew ?_ | refine blk_alloc ?_ _)); refine blk_far ?_ NB118_126.out _; (with_reducible repeat (first | refine blk_drewN ?_ _ | refine blk_drew ?_ | refine blk_alloc ?_ _)); refine blk_far ?_ NB118_126.out _; (with_reducible repeat (first | refine blk_drewN ?_ _ | refine blk_drew ?_ | refine blk_alloc ?_ _)); refine blk_far ?_ NB118_126.out _; (with_reducible repeat (first | refine blk_drewN ?_ _ | refine blk_drew ?_ | refine blk_alloc ?_ _)); refine blk_far ?_ NB118_126.out _; (with_reducible repeat (first | refine blk_drewN ?_ _ | refine blk_drew ?_ | refine blk_alloc ?_ _)); refine blk_far ?_ NB118_126.out _; (with_reducible repeat (first | refine blk_drewN ?_ _ | refine blk_drew ?_ | refine blk_alloc ?_ _)); exact BK118.out) Try.underlying37 rfl (by kernel_rfl)) rfl ?_
                          exact ⟨by first | rfl | (simp [errW_none, errW_some] <;> rfl) | (simp only [← hji36]; first | rfl | (simp [errW_none, errW_some] <;> rfl)) | (simp [*, errW_none, errW_some] <;> rfl), by repeat (first | (with_reducible first | exact HB.out | apply below_alloc | apply pw_below_drewN | apply below_drew1 | refine below_set ?_ GE117.out | refine below_set ?_ GE118.out | refine below_set ?_ GE119.out | refine below_set ?_ GE126.out) | exact HB.out)⟩
                        · rw [if_neg c52] at H
                          have c52b0 : decide (a3 < ((rd_T34 y121 x51_2).f1)) = false := decide_eq_false c52
                          clear c52
                          have H' := Aside0.mk H
                          clear H
                          have p125 : 0 ≤ (x51_2 : Int) := of_decide_eq_true (by first | (with_reducible assumption) | assumption)
                          have q125 : x51_2 < (y121.length : Int) := of_decide_eq_true (by first | (with_reducible assumption) | assumption)
                          obtain ⟨ad125, e125, hx125_0, hx125_1, hx125_2, hx125_3, hx125_4, hx125_5, hx125_6, hx125_7, hx125_8, hx125_9⟩ := at_T34 HR124.out x51_2 p125 q125
                          cases e125
                          replace hx125_0 := (HB.out.cell (World.block_lt_of_cell? w _ hx125_0)).trans hx125_0
                          replace hx125_1 := (HB.out.cell (World.block_lt_of_cell? w _ hx125_1)).trans hx125_1
                          replace hx125_2 := (HB.out.cell (World.block_lt_of_cell? w _ hx125_2)).trans hx125_2
                          replace hx125_3 := (HB.out.cell (World.block_lt_of_cell? w _ hx125_3)).trans hx125_3
                          replace hx125_4 := (HB.out.cell (World.block_lt_of_cell? w _ hx125_4)).trans hx125_4
                          replace hx125_5 := (HB.out.cell (World.block_lt_of_cell? w _ hx125_5)).trans hx125_5
                          replace hx125_6 := (HB.out.cell (World.block_lt_of_cell? w _ hx125_6)).trans hx125_6
                          replace hx125_7 := (HB.out.cell (World.block_lt_of_cell? w _ hx125_7)).trans hx125_7
                          replace hx125_8 := (HB.out.cell (World.block_lt_of_cell? w _ hx125_8)).trans hx125_8
                          replace hx125_9 := (HB.out.cell (World.block_lt_of_cell? w _ hx125_9)).trans hx125_9
                          replace p125 := eq_true p125
                          replace q125 := eq_true q125
                          go_wp2_with (first | ((with_reducible refine gate_dst (N := 14) rfl ?_); (try (refine gate_guard (by rfl) ?_; dsimp only)); refine box_event ?hg (N := 14) ?hd (cs := #[.string (⟨#[]⟩ : ByteArray), .string (⟨#[]⟩ : ByteArray), .int .i64 0, .int .i64 0, .int .i64 0, .int .i64 0, .int .i64 0, .int .i64 0, .int .i64 0, .bool false]) (t := 34) ?hr ?_; (case hd => rfl); (case hg => rfl); (case hr => first | (go_simp; done) | (go_simp; rfl)); intro gb126 hg w61 hbox hb; have n0_ := Aside0.mk (blk_below (g := gb117) (o := .cells #[.int .i64 a2_0, .int .i64 a2_1, .int .i64 a2_2] 42 (0, 0)) (by (with_reducible repeat (first | refine blk_drewN ?_ _ | refine blk_drew ?_ | refine blk_alloc ?_ _)); exact BK117.out) hb); have n1_ := Aside0.mk (blk_below (g := gb118) (o := .cells #[.int .i64 x119000_2, .int .i64 x119001_2, .int .i64 x119002_2] 37 (0, 0)) (by (with_reducible repeat (first | refine blk_drewN ?_ _ | refine blk_drew ?_ | refine blk_alloc ?_ _)); exact BK118.out) hb); have n2_ := Aside0.mk (blk_below (g := gb119) (o := .cells #[.int .i64 a2_1, .int .i64 a2_2] 64 (0, 0)) (by (with_reducible repeat (first | refine blk_drewN ?_ _ | refine blk_drew ?_ | refine blk_alloc ?_ _)); exact BK119.out) hb); have n3_ := Aside0.mk (below_step (by repeat (first | (with_reducible first | exact HB.out | apply below_alloc | apply pw_below_drewN | apply below_drew1 | refine below_set ?_ GE117.out | refine below_set ?_ GE118.out | refine below_set ?_ GE119.out) | exact HB.out)) hb); have n4_ := Aside0.mk (hbox); have n5_ := Aside0.mk ((by rw [hg]; exact (below_size (by repeat (first | (with_reducible first | exact HB.out | apply below_alloc | apply pw_below_drewN | apply below_drew1 | refine below_set ?_ GE117.out | refine below_set ?_ GE118.out | refine below_set ?_ GE119.out) | exact HB.out))) : w.heap.size ≤ gb126)); have n6_ := Aside0.mk ((by rw [hg]; exact (below_size (by repeat (first | (with_reducible first | exact HB.out | apply below_alloc | apply pw_below_drewN | apply below_drew1 | refine below_set ?_ GE117.out | refine below_set ?_ GE118.out | refine below_set ?_ GE119.out) | exact HB.out))) : w.heap.size ≤ gb126)); have n7_ := Aside0.mk ((by rw [hg]; exact Nat.ne_of_lt (blk_lt (g := gb117) (o := .cells #[.int .i64 a2_0, .int .i64 a2_1, .int .i64 a2_2] 42 (0, 0)) (by (with_reducible repeat (first | refine blk_drewN ?_ _ | refine blk_drew ?_ | refine blk_alloc ?_ _)); exact BK117.out)) : gb117 ≠ gb126)); have n8_ := Aside0.mk ((by rw [hg]; exact Nat.ne_of_gt (blk_lt (g := gb117) (o := .cells #[.int .i64 a2_0, .int .i64 a2_1, .int .i64 a2_2] 42 (0, 0)) (by (with_reducible repeat (first | refine blk_drewN ?_ _ | refine blk_drew ?_ | refine blk_alloc ?_ _)); exact BK117.out)) : gb126 ≠ gb117)); have n9_ := Aside0.mk ((by rw [hg]; exact Nat.ne_of_lt (blk_lt (g := gb118) (o := .cells #[.int .i64 x119000_2, .int .i64 x119001_2, .int .i64 x119002_2] 37 (0, 0)) (by (with_reducible repeat (first | refine blk_drewN ?_ _ | refine blk_drew ?_ | refine blk_alloc ?_ _)); exact BK118.out)) : gb118 ≠ gb126)); have n10_ := Aside0.mk ((by rw [hg]; exact Nat.ne_of_gt (blk_lt (g := gb118) (o := .cells #[.int .i64 x119000_2, .int .i64 x119001_2, .int .i64 x119002_2] 37 (0, 0)) (by (with_reducible repeat (first | refine blk_drewN ?_ _ | refine blk_drew ?_ | refine blk_alloc ?_ _)); exact BK118.out)) : gb126 ≠ gb118)); have n11_ := Aside0.mk ((by rw [hg]; exact Nat.ne_of_lt (blk_lt (g := gb119) (o := .cells #[.int .i64 a2_1, .int .i64 a2_2] 64 (0, 0)) (by (with_reducible repeat (first | refine blk_drewN ?_ _ | refine blk_drew ?_ | refine blk_alloc ?_ _)); exact BK119.out)) : gb119 ≠ gb126)); have n12_ := Aside0.mk ((by rw [hg]; exact Nat.ne_of_gt (blk_lt (g := gb119) (o := .cells #[.int .i64 a2_1, .int .i64 a2_2] 64 (0, 0)) (by (with_reducible repeat (first | refine blk_drewN ?_ _ | refine blk_drew ?_ | refine blk_alloc ?_ _)); exact BK119.out)) : gb126 ≠ gb119)); clear BK117; clear BK118; clear BK119; clear HB; have BK117 := n0_; have BK118 := n1_; have BK119 := n2_; have HB := n3_; have BK126 := n4_; have GW126 := n5_; have GE126 := n6_; have NB117_126 := n7_; have NB126_117 := n8_; have NB118_126 := n9_; have NB126_118 := n10_; have NB119_126 := n11_; have NB126_119 := n12_; clear n0_ n1_ n2_ n3_ n4_ n5_ n6_ n7_ n8_ n9_ n10_ n11_ n12_; clear hb hbox hg; have hnb62 := NB126_117.out; have hnc62 := NB117_126.out; have hnb63 := NB126_118.out; have hnc63 := NB118_126.out; have hnb64 := NB126_119.out; have hnc64 := NB119_126.out; have hcz65_0 : w61.cell? ⟨gb126, 0, none⟩ = some (.string (⟨#[]⟩ : ByteArray)) := (blk_cell BK126.out 0).trans rfl; have hcz65_1 : w61.cell? ⟨gb126, 1, none⟩ = some (.string (⟨#[]⟩ : ByteArray)) := (blk_cell BK126.out 1).trans rfl; have hcz65_2 : w61.cell? ⟨gb126, 2, none⟩ = some (.int .i64 0) := (blk_cell BK126.out 2).trans rfl; have hcz65_3 : w61.cell? ⟨gb126, 3, none⟩ = some (.int .i64 0) := (blk_cell BK126.out 3).trans rfl; have hcz65_4 : w61.cell? ⟨gb126, 4, none⟩ = some (.int .i64 0) := (blk_cell BK126.out 4).trans rfl; have hcz65_5 : w61.cell? ⟨gb126, 5, none⟩ = some (.int .i64 0) := (blk_cell BK126.out 5).trans rfl; have hcz65_6 : w61.cell? ⟨gb126, 6, none⟩ = some (.int .i64 0) := (blk_cell BK126.out 6).trans rfl; have hcz65_7 : w61.cell? ⟨gb126, 7, none⟩ = some (.int .i64 0) := (blk_cell BK126.out 7).trans rfl; have hcz65_8 : w61.cell? ⟨gb126, 8, none⟩ = some (.int .i64 0) := (blk_cell BK126.out 8).trans rfl; have hcz65_9 : w61.cell? ⟨gb126, 9, none⟩ = some (.bool false) := (blk_cell BK126.out 9).trans rfl; have hfz65_0 := blk_frozen BK126.out 0; have hfz65_1 := blk_frozen BK126.out 1; have hfz65_2 := blk_frozen BK126.out 2; have hfz65_3 := blk_frozen BK126.out 3; have hfz65_4 := blk_frozen BK126.out 4; have hfz65_5 := blk_frozen BK126.out 5; have hfz65_6 := blk_frozen BK126.out 6; have hfz65_7 := blk_frozen BK126.out 7; have hfz65_8 := blk_frozen BK126.out 8; have hfz65_9 := blk_frozen BK126.out 9))
                          go_roundg k2
                          case measure => have := HJ5.out; have := HK2.out; omega
                          case rel => exact ⟨(wrap64 (x51_2 + 1)), (x119000_2), (x119001_2), (x119002_2), (by first | rfl | (simp; done) | (simp [*]; done) | exact congrArg (Value.int _) (by unfold wrap64; omega)), H', ⟨by have := HJ5.out; have := HK2.out; omega⟩, ⟨by (with_reducible repeat (first | refine blk_drewN ?_ _ | refine blk_drew ?_ | refine blk_alloc ?_ _)); refine blk_far ?_ NB117_126.out _; (with_reducible repeat (first | refine blk_drewN ?_ _ | refine blk_drew ?_ | refine blk_alloc ?_ _)); refine blk_far ?_ NB117_126.out _; (with_reducible repeat (first | refine blk_drewN ?_ _ | refine blk_drew ?_ | refine blk_alloc ?_ _)); refine blk_far ?_ NB117_126.out _; (with_reducible repeat (first | refine blk_drewN ?_ _ | refine blk_drew ?_ | refine blk_alloc ?_ _)); refine blk_far ?_ NB117_126.out _; (with_reducible repeat (first | refine blk_drewN ?_ _ | refine blk_drew ?_ | refine blk_alloc ?_ _)); refine blk_far ?_ NB117_126.out _; (with_reducible repeat (first | refine blk_drewN ?_ _ | refine blk_drew ?_ | refine blk_alloc ?_ _)); refine blk_far ?_ NB117_126.out _; (with_reducible repeat (first | refine blk_drewN ?_ _ | refine blk_drew ?_ | refine blk_alloc ?_ _)); refine blk_far ?_ NB117_126.out _; (with_reducible repeat (first | refine blk_drewN ?_ _ | refine blk_drew ?_ | refine blk_alloc ?_ _)); refine blk_far ?_ NB117_126.out _; (with_reducible repeat (first | refine blk_drewN ?_ _ | refine blk_drew ?_ | refine blk_alloc ?_ _)); refine blk_far ?_ NB117_126.out _; (with_reducible repeat (first | refine blk_drewN ?_ _ | refine blk_drew ?_ | refine blk_alloc ?_ _)); refine blk_far ?_ NB117_126.out _; (with_reducible repeat (first | refine blk_drewN ?_ _ | refine blk_drew ?_ | refine blk_alloc ?_ _)); exact BK117.out⟩, ⟨by (with_reducible repeat (first | refine blk_drewN ?_ _ | refine blk_drew ?_ | refine blk_alloc ?_ _)); refine blk_far ?_ NB118_126.out _; (with_reducible repeat (first | refine blk_drewN ?_ _ | refine blk_drew ?_ | refine blk_alloc ?_ _)); refine blk_far ?_ NB118_126.out _; (with_reducible repeat (first | refine blk_drewN ?_ _ | refine blk_drew ?_ | refine blk_alloc ?_ _)); refine blk_far ?_ NB118_126.out _; (with_reducible repeat (first | refine blk_drewN ?_ _ | refine blk_drew ?_ | refine blk_alloc ?_ _)); refine blk_far ?_ NB118_126.out _; (with_reducible repeat (first | refine blk_drewN ?_ _ | refine blk_drew ?_ | refine blk_alloc ?_ _)); refine blk_far ?_ NB118_126.out _; (with_reducible repeat (first | refine blk_drewN ?_ _ | refine blk_drew ?_ | refine blk_alloc ?_ _)); refine blk_far ?_ NB118_126.out _; (with_reducible repeat (first | refine blk_drewN ?_ _ | refine blk_drew ?_ | refine blk_alloc ?_ _)); refine blk_far ?_ NB118_126.out _; (with_reducible repeat (first | refine blk_drewN ?_ _ | refine blk_drew ?_ | refine blk_alloc ?_ _)); refine blk_far ?_ NB118_126.out _; (with_reducible repeat (first | refine blk_drewN ?_ _ | refine blk_drew ?_ | refine blk_alloc ?_ _)); refine blk_far ?_ NB118_126.out _; (with_reducible repeat (first | refine blk_drewN ?_ _ | refine blk_drew ?_ | refine blk_alloc ?_ _)); refine blk_far ?_ NB118_126.out _; (with_reducible repeat (first | refine blk_drewN ?_ _ | refine blk_drew ?_ | refine blk_alloc ?_ _)); exact BK118.out⟩, ⟨by (with_reducible repeat (first | refine blk_drewN ?_ _ | refine blk_drew ?_ | refine blk_alloc ?_ _)); refine blk_far ?_ NB119_126.out _; (with_reducible repeat (first | refine blk_drewN ?_ _ | refine blk_drew ?_ | refine blk_alloc ?_ _)); refine blk_far ?_ NB119_126.out _; (with_reducible repeat (first | refine blk_drewN ?_ _ | refine blk_drew ?_ | refine blk_alloc ?_ _)); refine blk_far ?_ NB119_126.out _; (with_reducible repeat (first | refine blk_drewN ?_ _ | refine blk_drew ?_ | refine blk_alloc ?_ _)); refine blk_far ?_ NB119_126.out _; (with_reducible repeat (first | refine blk_drewN ?_ _ | refine blk_drew ?_ | refine blk_alloc ?_ _)); refine blk_far ?_ NB119_126.out _; (with_reducible repeat (first | refine blk_drewN ?_ _ | refine blk_drew ?_ | refine blk_alloc ?_ _)); refine blk_far ?_ NB119_126.out _; (with_reducible repeat (first | refine blk_drewN ?_ _ | refine blk_drew ?_ | refine blk_alloc ?_ _)); refine blk_far ?_ NB119_126.out _; (with_reducible repeat (first | refine blk_drewN ?_ _ | refine blk_drew ?_ | refine blk_alloc ?_ _)); refine blk_far ?_ NB119_126.out _; (with_reducible repeat (first | refine blk_drewN ?_ _ | refine blk_drew ?_ | refine blk_alloc ?_ _)); refine blk_far ?_ NB119_126.out _; (with_reducible repeat (first | refine blk_drewN ?_ _ | refine blk_drew ?_ | refine blk_alloc ?_ _)); refine blk_far ?_ NB119_126.out _; (with_reducible repeat (first | refine blk_drewN ?_ _ | refine blk_drew ?_ | refine blk_alloc ?_ _)); exact BK119.out⟩, ⟨by repeat (first | (with_reducible first | exact HB.out | apply below_alloc | apply pw_below_drewN | apply below_drew1 | refine below_set ?_ GE117.out | refine below_set ?_ GE118.out | refine below_set ?_ GE119.out | refine below_set ?_ GE126.out) | exact HB.out)⟩⟩
                    · rw [if_neg c42] at H
                      exact absurd H (by simp)
                  · rw [if_neg c41] at H
                    exact absurd H (by simp)
                · rw [if_neg c40] at H
                  have c40b0 : decide (x51_2 < (y121.length : Int)) = false := decide_eq_false c40
                  clear c40
                  have HC66 := Aside0.mk H
                  clear H
                  go_upto_if 66 with (fail)
                  go_cut [15, 16] (fun v15 v16 wc => ∃ (kq : Nat) (x15_65 : Int) (x16_65 : Int), v15 = .int .i64 x15_65 ∧ v16 = .int .i64 x16_65 ∧ Aside0 (score_Of.j2 kq l0 a1 a3 x15_65 x16_65 a2_1 a2_2 = some (r1, r2, r3, r4)) ∧ Aside0 (kq ≤ k2) ∧ Aside0 (wc.heap[gb117]? = some (.cells #[.int .i64 a2_0, .int .i64 a2_1, .int .i64 a2_2] 42 (0, 0))) ∧ Aside0 (wc.heap[gb118]? = some (.cells #[.int .i64 x119000_2, .int .i64 x119001_2, .int .i64 x119002_2] 37 (0, 0))) ∧ Aside0 (wc.heap[gb119]? = some (.cells #[.int .i64 a2_1, .int .i64 a2_2] 64 (0, 0))) ∧ Aside0 (Below w.heap.size w wc))
                  case first =>
                    have H := HC66.out
                    clear HC66
                    by_cases c67 : a4 = true
                    · subst c67
                      have H1 : ((score_Predict.f k2 l0 a1 1 a3).bind fun t127 => ((score_Predict.f k2 l0 a1 2 a3).bind fun t128 => (score_Of.j2 k2 l0 a1 a3 t127 t128 a2_1 a2_2))) = some (r1, r2, r3, r4) := by rw [if_pos rfl] at H; exact H
                      clear H
                      have H := H1
                      clear H1
                      replace H := Option.bind_eq_some_iff.mp H
                      obtain ⟨t127, A680, H⟩ := H
                      replace H : ((score_Predict.f k2 l0 a1 2 a3).bind fun t128 => (score_Of.j2 k2 l0 a1 a3 t127 t128 a2_1 a2_2)) = some (r1, r2, r3, r4) := H
                      have A68 := Aside0.mk A680
                      clear A680
                      replace H := Option.bind_eq_some_iff.mp H
                      obtain ⟨t128, A690, H⟩ := H
                      replace H : (score_Of.j2 k2 l0 a1 a3 t127 t128 a2_1 a2_2) = some (r1, r2, r3, r4) := H
                      have A69 := Aside0.mk A690
                      clear A690
                      have H' := Aside0.mk H
                      clear H
                      go_wp2_with (first | ((with_reducible refine gate_callee (f := 15) rfl ?_); refine goesL_ (some 70) rfl rfl Try.func15 (by kernel_rfl) rfl #[.slice A0 l0.length c0, .int .i64 a1, .int .i64 1, .int .i64 a3] rfl (by (try simp only [List.map_toArray, List.map_cons, List.map_nil]); first | done | rfl | (simp only [List.length_drop, List.length_take]; rfl)) ?_; (with_reducible refine (score_Predict.calls k2 _ _ l0 a1 1 a3 t127 _ ?side1 ?side2 A68.out).mono ?_); (case side1 => repeat (first | exact (Kd.C_below HR0.out HB.out) | (with_reducible refine Kd.C_alloc ?_ _) | (with_reducible refine Kd.C_drewN ?_ _) | (with_reducible refine Kd.C_drew ?_))); (case side2 => exact HC0.out); rintro e w70 ⟨rfl, hb⟩; refine ⟨_, rfl, ?_⟩; have n0_ := Aside0.mk (blk_below (g := gb117) (o := .cells #[.int .i64 a2_0, .int .i64 a2_1, .int .i64 a2_2] 42 (0, 0)) (by (with_reducible repeat (first | refine blk_drewN ?_ _ | refine blk_drew ?_ | refine blk_alloc ?_ _)); exact BK117.out) hb); have n1_ := Aside0.mk (blk_below (g := gb118) (o := .cells #[.int .i64 x119000_2, .int .i64 x119001_2, .int .i64 x119002_2] 37 (0, 0)) (by (with_reducible repeat (first | refine blk_drewN ?_ _ | refine blk_drew ?_ | refine blk_alloc ?_ _)); exact BK118.out) hb); have n2_ := Aside0.mk (blk_below (g := gb119) (o := .cells #[.int .i64 a2_1, .int .i64 a2_2] 64 (0, 0)) (by (with_reducible repeat (first | refine blk_drewN ?_ _ | refine blk_drew ?_ | refine blk_alloc ?_ _)); exact BK119.out) hb); have n3_ := Aside0.mk (below_step (by repeat (first | (with_reducible first | exact HB.out | apply below_alloc | apply pw_below_drewN | apply below_drew1 | refine below_set ?_ GE117.out | refine below_set ?_ GE118.out | refine below_set ?_ GE119.out) | exact HB.out)) hb); clear BK117; clear BK118; clear BK119; clear HB; have BK117 := n0_; have BK118 := n1_; have BK119 := n2_; have HB := n3_; clear n0_ n1_ n2_ n3_; (try clear hb); (try clear hb2); (try clear hk); (try clear hi)) | ((with_reducible refine gate_callee (f := 15) rfl ?_); refine goesL_ (some 74) rfl rfl Try.func15 (by kernel_rfl) rfl #[.slice A0 l0.length c0, .int .i64 a1, .int .i64 2, .int .i64 a3] rfl (by (try simp only [List.map_toArray, List.map_cons, List.map_nil]); first | done | rfl | (simp only [List.length_drop, List.length_take]; rfl)) ?_; (with_reducible refine (score_Predict.calls k2 _ _ l0 a1 2 a3 t128 _ ?side1 ?side2 A69.out).mono ?_); (case side1 => repeat (first | exact (Kd.C_below HR0.out HB.out) | (with_reducible refine Kd.C_alloc ?_ _) | (with_reducible refine Kd.C_drewN ?_ _) | (with_reducible refine Kd.C_drew ?_))); (case side2 => exact HC0.out); rintro e w71 ⟨rfl, hb⟩; refine ⟨_, rfl, ?_⟩; have n0_ := Aside0.mk (blk_below (g := gb117) (o := .cells #[.int .i64 a2_0, .int .i64 a2_1, .int .i64 a2_2] 42 (0, 0)) (by (with_reducible repeat (first | refine blk_drewN ?_ _ | refine blk_drew ?_ | refine blk_alloc ?_ _)); exact BK117.out) hb); have n1_ := Aside0.mk (blk_below (g := gb118) (o := .cells #[.int .i64 x119000_2, .int .i64 x119001_2, .int .i64 x119002_2] 37 (0, 0)) (by (with_reducible repeat (first | refine blk_drewN ?_ _ | refine blk_drew ?_ | refine blk_alloc ?_ _)); exact BK118.out) hb); have n2_ := Aside0.mk (blk_below (g := gb119) (o := .cells #[.int .i64 a2_1, .int .i64 a2_2] 64 (0, 0)) (by (with_reducible repeat (first | refine blk_drewN ?_ _ | refine blk_drew ?_ | refine blk_alloc ?_ _)); exact BK119.out) hb); have n3_ := Aside0.mk (below_step (by repeat (first | (with_reducible first | exact HB.out | apply below_alloc | apply pw_below_drewN | apply below_drew1 | refine below_set ?_ GE117.out | refine below_set ?_ GE118.out | refine below_set ?_ GE119.out) | exact HB.out)) hb); clear BK117; clear BK118; clear BK119; clear HB; have BK117 := n0_; have BK118 := n1_; have BK119 := n2_; have HB := n3_; clear n0_ n1_ n2_ n3_; (try clear hb); (try clear hb2); (try clear hk); (try clear hi)))
                      go_meet
                      case rel => exact ⟨_, (t127), (t128), (by first | rfl | (simp; done) | (simp [*]; done) | exact congrArg (Value.int _) (by unfold wrap64; omega)), (by first | rfl | (simp; done) | (simp [*]; done) | exact congrArg (Value.int _) (by unfold wrap64; omega)), H', ⟨by have := HJ5.out; have := HK2.out; first | omega | exact Nat.le_refl _⟩, ⟨by (with_reducible repeat (first | refine blk_drewN ?_ _ | refine blk_drew ?_ | refine blk_alloc ?_ _)); exact BK117.out⟩, ⟨by (with_reducible repeat (first | refine blk_drewN ?_ _ | refine blk_drew ?_ | refine blk_alloc ?_ _)); exact BK118.out⟩, ⟨by (with_reducible repeat (first | refine blk_drewN ?_ _ | refine blk_drew ?_ | refine blk_alloc ?_ _)); exact BK119.out⟩, ⟨by repeat (first | (with_reducible first | exact HB.out | apply below_alloc | apply pw_below_drewN | apply below_drew1 | refine below_set ?_ GE117.out | refine below_set ?_ GE118.out | refine below_set ?_ GE119.out) | exact HB.out)⟩⟩
                    · replace c67 := Bool.eq_false_iff.mpr c67
                      subst c67
                      have H1 : (score_Of.j2 k2 l0 a1 a3 0 0 a2_1 a2_2) = some (r1, r2, r3, r4) := by rw [if_neg (show ¬ (false = true) by decide)] at H; exact H
                      clear H
                      have H := H1
                      clear H1
                      have H' := Aside0.mk H
                      clear H
                      go_wp2
                      go_meet
                      case rel => exact ⟨_, (0), (0), (by first | rfl | (simp; done) | (simp [*]; done) | exact congrArg (Value.int _) (by unfold wrap64; omega)), (by first | rfl | (simp; done) | (simp [*]; done) | exact congrArg (Value.int _) (by unfold wrap64; omega)), H', ⟨by have := HJ5.out; have := HK2.out; first | omega | exact Nat.le_refl _⟩, ⟨by (with_reducible repeat (first | refine blk_drewN ?_ _ | refine blk_drew ?_ | refine blk_alloc ?_ _)); exact BK117.out⟩, ⟨by (with_reducible repeat (first | refine blk_drewN ?_ _ | refine blk_drew ?_ | refine blk_alloc ?_ _)); exact BK118.out⟩, ⟨by (with_reducible repeat (first | refine blk_drewN ?_ _ | refine blk_drew ?_ | refine blk_alloc ?_ _)); exact BK119.out⟩, ⟨by repeat (first | (with_reducible first | exact HB.out | apply below_alloc | apply pw_below_drewN | apply below_drew1 | refine below_set ?_ GE117.out | refine below_set ?_ GE118.out | refine below_set ?_ GE119.out) | exact HB.out)⟩⟩
                  case rest =>
                    clear HC66
                    try clear c1
                    try clear p1
                    try clear q1
                    try clear hx1
                    try clear c2
                    try clear p2
                    try clear c3
                    try clear q3
                    try clear c4
                    try clear c5
                    try clear c6
                    try clear p6
                    try clear c9
                    try clear c12
                    try clear p12
                    try clear q12
                    try clear hx12
                    try clear c13
                    try clear c15
                    try clear c15b0
                    try clear c16
                    try clear c16b0
                    try clear c18
                    try clear c19
                    try clear c19b0
                    try clear c20
                    try clear c21
                    try clear c24
                    try clear c25
                    try clear c28
                    try clear c29
                    try clear c32
                    try clear c33
                    try clear c34
                    try clear c37
                    try clear c37b0
                    try clear c37b1
                    try clear c38
                    try clear c38b0
                    try clear c38b1
                    try clear q39
                    try clear c40
                    try clear c40b0
                    try clear c41
                    try clear c41b0
                    try clear c42
                    try clear c42b0
                    try clear c43
                    try clear c43b0
                    try clear c45
                    try clear c46
                    try clear c47
                    try clear c49
                    try clear c50
                    try clear c52
                    try clear c52b0
                    try clear c54
                    try clear c55
                    try clear c56
                    try clear c58
                    try clear c59
                    try clear c62
                    try clear c63
                    try clear c64
                    try clear p64
                    try clear c67
                    try clear hcz10_0
                    try clear hcz10_1
                    try clear hcz10_2
                    try clear hcz14_0
                    try clear hcz14_1
                    try clear hcz22_0
                    try clear hcz22_1
                    try clear hcz26_0
                    try clear hcz26_1
                    try clear hcz30_0
                    try clear hcz30_1
                    try clear hcz35_0
                    try clear hcz35_1
                    try clear hcz35_2
                    try clear hcz48_0
                    try clear hcz48_1
                    try clear hcz48_2
                    try clear hcz48_3
                    try clear hcz48_4
                    try clear hcz48_5
                    try clear hcz48_6
                    try clear hcz48_7
                    try clear hcz48_8
                    try clear hcz48_9
                    try clear hcz51_0
                    try clear hcz51_1
                    try clear hcz51_2
                    try clear hcz57_0
                    try clear hcz57_1
                    try clear hcz57_2
                    try clear hcz57_3
                    try clear hcz57_4
                    try clear hcz57_5
                    try clear hcz57_6
                    try clear hcz57_7
                    try clear hcz57_8
                    try clear hcz57_9
                    try clear hcz60_0
                    try clear hcz60_1
                    try clear hcz60_2
                    try clear hcz65_0
                    try clear hcz65_1
                    try clear hcz65_2
                    try clear hcz65_3
                    try clear hcz65_4
                    try clear hcz65_5
                    try clear hcz65_6
                    try clear hcz65_7
                    try clear hcz65_8
                    try clear hcz65_9
                    try clear hfz10_0
                    try clear hfz10_1
                    try clear hfz10_2
                    try clear hfz14_0
                    try clear hfz14_1
                    try clear hfz22_0
                    try clear hfz22_1
                    try clear hfz26_0
                    try clear hfz26_1
                    try clear hfz30_0
                    try clear hfz30_1
                    try clear hfz35_0
                    try clear hfz35_1
                    try clear hfz35_2
                    try clear hfz48_0
                    try clear hfz48_1
                    try clear hfz48_2
                    try clear hfz48_3
                    try clear hfz48_4
                    try clear hfz48_5
                    try clear hfz48_6
                    try clear hfz48_7
                    try clear hfz48_8
                    try clear hfz48_9
                    try clear hfz51_0
                    try clear hfz51_1
                    try clear hfz51_2
                    try clear hfz57_0
                    try clear hfz57_1
                    try clear hfz57_2
                    try clear hfz57_3
                    try clear hfz57_4
                    try clear hfz57_5
                    try clear hfz57_6
                    try clear hfz57_7
                    try clear hfz57_8
                    try clear hfz57_9
                    try clear hfz60_0
                    try clear hfz60_1
                    try clear hfz60_2
                    try clear hfz65_0
                    try clear hfz65_1
                    try clear hfz65_2
                    try clear hfz65_3
                    try clear hfz65_4
                    try clear hfz65_5
                    try clear hfz65_6
                    try clear hfz65_7
                    try clear hfz65_8
                    try clear hfz65_9
                    try clear hx125_0
                    try clear hx125_1
                    try clear hx125_2
                    try clear hx125_3
                    try clear hx125_4
                    try clear hx125_5
                    try clear hx125_6
                    try clear hx125_7
                    try clear hx125_8
                    try clear hx125_9
                    try clear p125
                    try clear p2
                    try clear p6
                    try clear q125
                    try clear q3
                    try clear q39
                    obtain ⟨kq, x15_65, x16_65, rfl, rfl, HA, HJ65, BK117, BK118, BK119, HB⟩ := hcut
                    cases kq with
                    | zero => exact absurd HA.out (by simp [score_Of.j2])
                    | succ kj65 =>
                      have H := HA.out
                      clear HA
                      simp only [score_Of.j2] at H
                      replace H := Option.bind_eq_some_iff.mp H
                      obtain ⟨t129, A720, H⟩ := H
                      replace H : ((score_weights_product.f a2_1 a2_2).bind fun t130 => ((score_weights_product.f a2_1 a2_2).bind fun t131 => ((score_weights_sum.f a2_1 a2_2).bind fun t132 => (if 0 ≤ a1 then (if a1 < (l0.length : Int) then (score_Of.j3 kj65 l0 a1 x15_65 x16_65 ((rd_T34 l0 a1).f1) a2_1 a2_2 (wrap64 (t129 * (wrap64 (x16_65 - x15_65)))) (wrap64 (t130 * a3)) (wrap64 (a3 * (wrap64 ((wrap64 (2 * t131)) + (wrap64 (t132 * (mx a2_1 a2_2)))))))) else (none)) else (none))))) = some (r1, r2, r3, r4) := H
                      have A72 := Aside0.mk A720
                      clear A720
                      replace H := Option.bind_eq_some_iff.mp H
                      obtain ⟨t130, A730, H⟩ := H
                      replace H : ((score_weights_product.f a2_1 a2_2).bind fun t131 => ((score_weights_sum.f a2_1 a2_2).bind fun t132 => (if 0 ≤ a1 then (if a1 < (l0.length : Int) then (score_Of.j3 kj65 l0 a1 x15_65 x16_65 ((rd_T34 l0 a1).f1) a2_1 a2_2 (wrap64 (t129 * (wrap64 (x16_65 - x15_65)))) (wrap64 (t130 * a3)) (wrap64 (a3 * (wrap64 ((wrap64 (2 * t131)) + (wrap64 (t132 * (mx a2_1 a2_2)))))))) else (none)) else (none)))) = some (r1, r2, r3, r4) := H
                      have A73 := Aside0.mk A730
                      clear A730
                      replace H := Option.bind_eq_some_iff.mp H
                      obtain ⟨t131, A740, H⟩ := H
                      replace H : ((score_weights_sum.f a2_1 a2_2).bind fun t132 => (if 0 ≤ a1 then (if a1 < (l0.length : Int) then (score_Of.j3 kj65 l0 a1 x15_65 x16_65 ((rd_T34 l0 a1).f1) a2_1 a2_2 (wrap64 (t129 * (wrap64 (x16_65 - x15_65)))) (wrap64 (t130 * a3)) (wrap64 (a3 * (wrap64 ((wrap64 (2 * t131)) + (wrap64 (t132 * (mx a2_1 a2_2)))))))) else (none)) else (none))) = some (r1, r2, r3, r4) := H
                      have A74 := Aside0.mk A740
                      clear A740
                      replace H := Option.bind_eq_some_iff.mp H
                      obtain ⟨t132, A750, H⟩ := H
                      replace H : (if 0 ≤ a1 then (if a1 < (l0.length : Int) then (score_Of.j3 kj65 l0 a1 x15_65 x16_65 ((rd_T34 l0 a1).f1) a2_1 a2_2 (wrap64 (t129 * (wrap64 (x16_65 - x15_65)))) (wrap64 (t130 * a3)) (wrap64 (a3 * (wrap64 ((wrap64 (2 * t131)) + (wrap64 (t132 * (mx a2_1 a2_2)))))))) else (none)) else (none)) = some (r1, r2, r3, r4) := H
                      have A75 := Aside0.mk A750
                      clear A750
                      obtain ⟨ji76, hji76⟩ : ∃ j_ : Int, (mx a2_1 a2_2) = j_ := ⟨_, rfl⟩
                      replace H : (if 0 ≤ a1 then (if a1 < (l0.length : Int) then (score_Of.j3 kj65 l0 a1 x15_65 x16_65 ((rd_T34 l0 a1).f1) a2_1 a2_2 (wrap64 (t129 * (wrap64 (x16_65 - x15_65)))) (wrap64 (t130 * a3)) (wrap64 (a3 * (wrap64 ((wrap64 (2 * t131)) + (wrap64 (t132 * (ji76)))))))) else (none)) else (none)) = some (r1, r2, r3, r4) := by first | (rw [hji76] at H; exact H) | (simp only [hji76] at H ⊢; exact H)
                      (try rw [hji76] at A72)
                      (try rw [hji76] at A73)
                      (try rw [hji76] at A74)
                      (try rw [hji76] at A75)
                      have hji76_ : (if a2_1 < a2_2 then a2_2 else a2_1) = ji76 := hji76
                      have HC77 := Aside0.mk H
                      clear H
                      try go_wp2
                      have n0_ := Aside0.mk (blk_drew BK117.out)
                      have n1_ := Aside0.mk (blk_drew BK118.out)
                      have n2_ := Aside0.mk (blk_drew BK119.out)
                      have n3_ := Aside0.mk (below_drew1 HB.out)
                      clear BK117
                      clear BK118
                      clear BK119
                      clear HB
                      have BK117 := n0_
                      have BK118 := n1_
                      have BK119 := n2_
                      have HB := n3_
                      clear n0_ n1_ n2_ n3_
                      refine start_ (n := 27) (S := fun w' => w'.cell? ⟨gb119, 0, none⟩ = some (.int .i64 a2_1) ∧ w'.cell? ⟨gb119, 1, none⟩ = some (.int .i64 a2_2)) (ds := []) #[false, false, false, false, false, false, false, false, false, false, false, false, false, false, false, false, false, false, false, false, false, false, false, false, false, false, false] (by kernel_rfl) rfl rfl ⟨(blk_cell BK119.out 0).trans rfl, (blk_cell BK119.out 1).trans rfl⟩ (fun hHeld => ?_); refine with_tabW score_Of.tab13 score_Of.bits13 (fun HT_ HW_ => ?_)
                      generalize wc.drew = w78 at BK117 BK118 BK119 HB hHeld ⊢
                      refine pure_ (i := 2) (N := some 77) (v := ?_) (a' := ?_) #[false, false, true, false, false, false, false, false, false, false, false, false, false, false, false, false, false, false, false, false, false, false, false, false, false, false, false] rfl rfl (any_of HT_.out (by kernel_rfl)) (fun _ _ _ h => h) (Or.inl ⟨by rfl, ?_⟩) ?_ ?_
                      rotate_left
                      · intro w'
                        go_simp
                        with_reducible rfl
                      rotate_left
                      · simp only [Act.put, List.setIfInBounds_toArray, List.set_cons_zero, List.set_cons_succ, i64_w, i32_w]
                        rfl
                      refine pure_ (i := 3) (N := some 78) (v := ?_) (a' := ?_) #[false, false, true, true, false, false, false, false, false, false, false, false, false, false, false, false, false, false, false, false, false, false, false, false, false, false, false] rfl rfl (any_of HT_.out (by kernel_rfl)) (fun _ _ _ h => h) (Or.inl ⟨by rfl, ?_⟩) ?_ ?_
                      rotate_left
                      · intro w'
                        go_simp
                        with_reducible rfl
                      rotate_left
                      · simp only [Act.put, List.setIfInBounds_toArray, List.set_cons_zero, List.set_cons_succ, i64_w, i32_w]
                        rfl
                      refine pure_ (i := 4) (N := some 79) (v := ?_) (a' := ?_) #[false, false, true, true, true, false, false, false, false, false, false, false, false, false, false, false, false, false, false, false, false, false, false, false, false, false, false] rfl rfl (any_of HT_.out (by kernel_rfl)) (fun _ _ _ h => h) (Or.inl ⟨by rfl, ?_⟩) ?_ ?_
                      rotate_left
                      · intro w'
                        go_simp
                        with_reducible rfl
                      rotate_left
                      · simp only [Act.put, List.setIfInBounds_toArray, List.set_cons_zero, List.set_cons_succ, i64_w, i32_w]
                        rfl
                      refine pure_ (i := 8) (N := some 83) (v := ?_) (a' := ?_) #[false, false, true, true, true, false, false, false, true, false, false, false, false, false, false, false, false, false, false, false, false, false, false, false, false, false, false] rfl rfl (any_of HT_.out (by kernel_rfl)) (fun _ _ _ h => h) (Or.inl ⟨by rfl, ?_⟩) ?_ ?_
                      rotate_left
                      · intro w'
                        go_simp
                        with_reducible rfl
                      rotate_left
                      · simp only [Act.put, List.setIfInBounds_toArray, List.set_cons_zero, List.set_cons_succ, i64_w, i32_w]
                        rfl
                      refine pure_ (i := 10) (N := some 85) (v := ?_) (a' := ?_) #[false, false, true, true, true, false, false, false, true, false, true, false, false, false, false, false, false, false, false, false, false, false, false, false, false, false, false] rfl rfl (any_of HT_.out (by kernel_rfl)) (fun _ _ _ h => h) (Or.inl ⟨by rfl, ?_⟩) ?_ ?_
                      rotate_left
                      · intro w'
                        go_simp
                        with_reducible rfl
                      rotate_left
                      · simp only [Act.put, List.setIfInBounds_toArray, List.set_cons_zero, List.set_cons_succ, i64_w, i32_w]
                        rfl
                      refine pure_ (i := 16) (N := some 91) (v := ?_) (a' := ?_) #[false, false, true, true, true, false, false, false, true, false, true, false, false, false, false, false, true, false, false, false, false, false, false, false, false, false, false] rfl rfl (any_of HT_.out (by kernel_rfl)) (fun _ _ _ h => h) (Or.inl ⟨by rfl, ?_⟩) ?_ ?_
                      rotate_left
                      · intro w'
                        go_simp
                        with_reducible rfl
                      rotate_left
                      · simp only [Act.put, List.setIfInBounds_toArray, List.set_cons_zero, List.set_cons_succ, i64_w, i32_w]
                        rfl
                      refine pure_ (i := 18) (N := some 93) (v := ?_) (a' := ?_) #[false, false, true, true, true, false, false, false, true, false, true, false, false, false, false, false, true, false, true, false, false, false, false, false, false, false, false] rfl rfl (any_of HT_.out (by kernel_rfl)) (fun _ _ _ h => h) (Or.inl ⟨by rfl, ?_⟩) ?_ ?_
                      rotate_left
                      · intro w'
                        go_simp
                        with_reducible rfl
                      rotate_left
                      · simp only [Act.put, List.setIfInBounds_toArray, List.set_cons_zero, List.set_cons_succ, i64_w, i32_w]
                        rfl
                      refine take_ (i := 0) (N := some 75) (v := ?_) (a' := ?_) #[true, false, true, true, true, false, false, false, true, false, true, false, false, false, false, false, true, false, true, false, false, false, false, false, false, false, false] rfl rfl (take_ofW HT_.out HW_.out (by kernel_rfl)) (fun _ _ _ h => h) (Or.inl ⟨by rfl, ?_⟩) hHeld ?_ ?_
                      rotate_left
                      · rintro w' ⟨s0, s1⟩
                        go_simp
                        with_reducible rfl
                      rotate_left
                      · simp only [Act.put, List.setIfInBounds_toArray, List.set_cons_zero, List.set_cons_succ, i64_w, i32_w]
                        rfl
                      refine take_ (i := 6) (N := some 81) (v := ?_) (a' := ?_) #[true, false, true, true, true, false, true, false, true, false, true, false, false, false, false, false, true, false, true, false, false, false, false, false, false, false, false] rfl rfl (take_ofW HT_.out HW_.out (by kernel_rfl)) (fun _ _ _ h => h) (Or.inl ⟨by rfl, ?_⟩) hHeld ?_ ?_
                      rotate_left
                      · rintro w' ⟨s0, s1⟩
                        go_simp
                        with_reducible rfl
                      rotate_left
                      · simp only [Act.put, List.setIfInBounds_toArray, List.set_cons_zero, List.set_cons_succ, i64_w, i32_w]
                        rfl
                      refine take_ (i := 11) (N := some 86) (v := ?_) (a' := ?_) #[true, false, true, true, true, false, true, false, true, false, true, true, false, false, false, false, true, false, true, false, false, false, false, false, false, false, false] rfl rfl (take_ofW HT_.out HW_.out (by kernel_rfl)) (fun _ _ _ h => h) (Or.inl ⟨by rfl, ?_⟩) hHeld ?_ ?_
                      rotate_left
                      · rintro w' ⟨s0, s1⟩
                        go_simp
                        with_reducible rfl
                      rotate_left
                      · simp only [Act.put, List.setIfInBounds_toArray, List.set_cons_zero, List.set_cons_succ, i64_w, i32_w]
                        rfl
                      refine take_ (i := 14) (N := some 89) (v := ?_) (a' := ?_) #[true, false, true, true, true, false, true, false, true, false, true, true, false, false, true, false, true, false, true, false, false, false, false, false, false, false, false] rfl rfl (take_ofW HT_.out HW_.out (by kernel_rfl)) (fun _ _ _ h => h) (Or.inl ⟨by rfl, ?_⟩) hHeld ?_ ?_
                      rotate_left
                      · rintro w' ⟨s0, s1⟩
                        go_simp
                        with_reducible rfl
                      rotate_left
                      · simp only [Act.put, List.setIfInBounds_toArray, List.set_cons_zero, List.set_cons_succ, i64_w, i32_w]
                        rfl
                      refine take_ (i := 17) (N := some 92) (v := ?_) (a' := ?_) #[true, false, true, true, true, false, true, false, true, false, true, true, false, false, true, false, true, true, true, false, false, false, false, false, false, false, false] rfl rfl (take_ofW HT_.out HW_.out (by kernel_rfl)) (fun _ _ _ h => h) (Or.inl ⟨by rfl, ?_⟩) hHeld ?_ ?_
                      rotate_left
                      · rintro w' ⟨s0, s1⟩
                        go_simp
                        with_reducible rfl
                      rotate_left
                      · simp only [Act.put, List.setIfInBounds_toArray, List.set_cons_zero, List.set_cons_succ, i64_w, i32_w]
                        rfl
                      refine take_ (i := 19) (N := some 94) (v := ?_) (a' := ?_) #[true, false, true, true, true, false, true, false, true, false, true, true, false, false, true, false, true, true, true, true, false, false, false, false, false, false, false] rfl rfl (take_ofW HT_.out HW_.out (by kernel_rfl)) (fun _ _ _ h => h) (Or.inl ⟨by rfl, ?_⟩) hHeld ?_ ?_
                      rotate_left
                      · rintro w' ⟨s0, s1⟩
                        go_simp
                        with_reducible rfl
                      rotate_left
                      · simp only [Act.put, List.setIfInBounds_toArray, List.set_cons_zero, List.set_cons_succ, i64_w, i32_w]
                        rfl
                      refine pure_ (i := 20) (N := some 95) (v := ?_) (a' := ?_) #[true, false, true, true, true, false, true, false, true, false, true, true, false, false, true, false, true, true, true, true, true, false, false, false, false, false, false] rfl rfl (any_of HT_.out (by kernel_rfl)) (fun _ _ _ h => h) (Or.inl ⟨by rfl, ?_⟩) ?_ ?_
                      rotate_left
                      · intro w'
                        go_simp
                        with_reducible rfl
                      rotate_left
                      · simp only [Act.put, List.setIfInBounds_toArray, List.set_cons_zero, List.set_cons_succ, i64_w, i32_w]
                        rfl
                      refine join_ (σ := Nat) 1 #[true, true, true, true, true, true, true, true, true, true, true, true, true, true, true, true, true, true, true, true, true, true, true, true, true, true, false] (fun s_ => [(76, .int .i64 t129), (82, .int .i64 t130), (87, .int .i64 t131), (90, .int .i64 t132), (17, .pointer (some ⟨s_, 0, none⟩)), (80, .int .i64 (wrap64 (t129 * (wrap64 (x16_65 - x15_65))))), (84, .int .i64 (wrap64 (t130 * a3))), (88, .int .i64 (wrap64 (2 * t131))), (96, .int .i64 (wrap64 (t132 * (ji76)))), (97, .int .i64 (wrap64 ((wrap64 (2 * t131)) + (wrap64 (t132 * (ji76)))))), (98, .int .i64 (wrap64 (a3 * (wrap64 ((wrap64 (2 * t131)) + (wrap64 (t132 * (ji76)))))))), (99, .agg #[.int .i64 (wrap64 (t129 * (wrap64 (x16_65 - x15_65)))), .int .i64 (wrap64 (t130 * a3)), .int .i64 (wrap64 (a3 * (wrap64 ((wrap64 (2 * t131)) + (wrap64 (t132 * (ji76)))))))])]) (fun s_ w' => (w'.cell? ⟨gb119, 0, none⟩ = some (.int .i64 a2_1) ∧ w'.cell? ⟨gb119, 1, none⟩ = some (.int .i64 a2_2)) ∧ (w'.heap[gb117]? = some (.cells #[.int .i64 a2_0, .int .i64 a2_1, .int .i64 a2_2] 42 (0, 0))) ∧ (w'.heap[gb118]? = some (.cells #[.int .i64 x119000_2, .int .i64 x119001_2, .int .i64 x119002_2] 37 (0, 0))) ∧ (w'.heap[gb119]? = some (.cells #[.int .i64 a2_1, .int .i64 a2_2] 64 (0, 0))) ∧ (w'.heap[s_]? = some (.cells #[.int .i64 0, .int .i64 0, .int .i64 0] 37 (0, 0))) ∧ (w.heap.size ≤ s_) ∧ (w.heap.size ≤ s_) ∧ (gb117 ≠ s_) ∧ (s_ ≠ gb117) ∧ (gb118 ≠ s_) ∧ (s_ ≠ gb118) ∧ (gb119 ≠ s_) ∧ (s_ ≠ gb119) ∧ (Below w.heap.size w w')) ?_ ?_
                      rotate_left
                      · intro hJ1_7_12_15_25
                        refine join_ (σ := Unit) 2 #[true, true, true, true, true, true, true, true, true, true, true, true, true, true, true, true, true, true, true, true, true, true, true, true, true, false, false] (fun s_ => [(76, .int .i64 t129), (82, .int .i64 t130), (87, .int .i64 t131), (90, .int .i64 t132), (80, .int .i64 (wrap64 (t129 * (wrap64 (x16_65 - x15_65))))), (84, .int .i64 (wrap64 (t130 * a3))), (88, .int .i64 (wrap64 (2 * t131))), (96, .int .i64 (wrap64 (t132 * (ji76)))), (97, .int .i64 (wrap64 ((wrap64 (2 * t131)) + (wrap64 (t132 * (ji76)))))), (98, .int .i64 (wrap64 (a3 * (wrap64 ((wrap64 (2 * t131)) + (wrap64 (t132 * (ji76)))))))), (99, .agg #[.int .i64 (wrap64 (t129 * (wrap64 (x16_65 - x15_65)))), .int .i64 (wrap64 (t130 * a3)), .int .i64 (wrap64 (a3 * (wrap64 ((wrap64 (2 * t131)) + (wrap64 (t132 * (ji76)))))))])]) (fun s_ w' => (w'.cell? ⟨gb119, 0, none⟩ = some (.int .i64 a2_1) ∧ w'.cell? ⟨gb119, 1, none⟩ = some (.int .i64 a2_2)) ∧ (w'.heap[gb117]? = some (.cells #[.int .i64 a2_0, .int .i64 a2_1, .int .i64 a2_2] 42 (0, 0))) ∧ (w'.heap[gb118]? = some (.cells #[.int .i64 x119000_2, .int .i64 x119001_2, .int .i64 x119002_2] 37 (0, 0))) ∧ (w'.heap[gb119]? = some (.cells #[.int .i64 a2_1, .int .i64 a2_2] 64 (0, 0))) ∧ (Below w.heap.size w w')) ?_ ?_
                        rotate_left
                        · intro hJ1_7_12_15
                          refine join_ (σ := Nat) 6 #[true, true, true, true, true, true, true, true, true, true, true, true, true, true, true, false, true, true, true, true, true, false, false, false, false, true, false] (fun s_ => [(76, .int .i64 t129), (82, .int .i64 t130), (87, .int .i64 t131), (17, .pointer (some ⟨s_, 0, none⟩)), (80, .int .i64 (wrap64 (t129 * (wrap64 (x16_65 - x15_65))))), (84, .int .i64 (wrap64 (t130 * a3))), (88, .int .i64 (wrap64 (2 * t131)))]) (fun s_ w' => (w'.cell? ⟨gb119, 0, none⟩ = some (.int .i64 a2_1) ∧ w'.cell? ⟨gb119, 1, none⟩ = some (.int .i64 a2_2)) ∧ (w'.heap[gb117]? = some (.cells #[.int .i64 a2_0, .int .i64 a2_1, .int .i64 a2_2] 42 (0, 0))) ∧ (w'.heap[gb118]? = some (.cells #[.int .i64 x119000_2, .int .i64 x119001_2, .int .i64 x119002_2] 37 (0, 0))) ∧ (w'.heap[gb119]? = some (.cells #[.int .i64 a2_1, .int .i64 a2_2] 64 (0, 0))) ∧ (w'.heap[s_]? = some (.cells #[.int .i64 0, .int .i64 0, .int .i64 0] 37 (0, 0))) ∧ (w.heap.size ≤ s_) ∧ (w.heap.size ≤ s_) ∧ (gb117 ≠ s_) ∧ (s_ ≠ gb117) ∧ (gb118 ≠ s_) ∧ (s_ ≠ gb118) ∧ (gb119 ≠ s_) ∧ (s_ ≠ gb119) ∧ (Below w.heap.size w w')) ?_ ?_
                          rotate_left
                          · intro hJ1_7_12_25
                            refine join_ (σ := Unit) 7 #[true, true, true, true, true, true, true, true, true, true, true, true, true, true, true, false, true, true, true, true, true, false, false, false, false, false, false] (fun s_ => [(76, .int .i64 t129), (82, .int .i64 t130), (87, .int .i64 t131), (80, .int .i64 (wrap64 (t129 * (wrap64 (x16_65 - x15_65))))), (84, .int .i64 (wrap64 (t130 * a3))), (88, .int .i64 (wrap64 (2 * t131)))]) (fun s_ w' => (w'.cell? ⟨gb119, 0, none⟩ = some (.int .i64 a2_1) ∧ w'.cell? ⟨gb119, 1, none⟩ = some (.int .i64 a2_2)) ∧ (w'.heap[gb117]? = some (.cells #[.int .i64 a2_0, .int .i64 a2_1, .int .i64 a2_2] 42 (0, 0))) ∧ (w'.heap[gb118]? = some (.cells #[.int .i64 x119000_2, .int .i64 x119001_2, .int .i64 x119002_2] 37 (0, 0))) ∧ (w'.heap[gb119]? = some (.cells #[.int .i64 a2_1, .int .i64 a2_2] 64 (0, 0))) ∧ (Below w.heap.size w w')) ?_ ?_
                            rotate_left
                            · intro hJ1_7_12
                              refine join_ (σ := Nat) 8 #[true, true, true, true, true, true, true, true, true, true, true, true, false, false, true, false, true, true, true, true, true, false, false, false, false, true, false] (fun s_ => [(76, .int .i64 t129), (82, .int .i64 t130), (17, .pointer (some ⟨s_, 0, none⟩)), (80, .int .i64 (wrap64 (t129 * (wrap64 (x16_65 - x15_65))))), (84, .int .i64 (wrap64 (t130 * a3)))]) (fun s_ w' => (w'.cell? ⟨gb119, 0, none⟩ = some (.int .i64 a2_1) ∧ w'.cell? ⟨gb119, 1, none⟩ = some (.int .i64 a2_2)) ∧ (w'.heap[gb117]? = some (.cells #[.int .i64 a2_0, .int .i64 a2_1, .int .i64 a2_2] 42 (0, 0))) ∧ (w'.heap[gb118]? = some (.cells #[.int .i64 x119000_2, .int .i64 x119001_2, .int .i64 x119002_2] 37 (0, 0))) ∧ (w'.heap[gb119]? = some (.cells #[.int .i64 a2_1, .int .i64 a2_2] 64 (0, 0))) ∧ (w'.heap[s_]? = some (.cells #[.int .i64 0, .int .i64 0, .int .i64 0] 37 (0, 0))) ∧ (w.heap.size ≤ s_) ∧ (w.heap.size ≤ s_) ∧ (gb117 ≠ s_) ∧ (s_ ≠ gb117) ∧ (gb118 ≠ s_) ∧ (s_ ≠ gb118) ∧ (gb119 ≠ s_) ∧ (s_ ≠ gb119) ∧ (Below w.heap.size w w')) ?_ ?_
                              rotate_left
                              · intro hJ1_7_25
                                refine join_ (σ := Unit) 9 #[true, true, true, true, true, true, true, true, true, true, true, true, false, false, true, false, true, true, true, true, true, false, false, false, false, false, false] (fun s_ => [(76, .int .i64 t129), (82, .int .i64 t130), (80, .int .i64 (wrap64 (t129 * (wrap64 (x16_65 - x15_65))))), (84, .int .i64 (wrap64 (t130 * a3)))]) (fun s_ w' => (w'.cell? ⟨gb119, 0, none⟩ = some (.int .i64 a2_1) ∧ w'.cell? ⟨gb119, 1, none⟩ = some (.int .i64 a2_2)) ∧ (w'.heap[gb117]? = some (.cells #[.int .i64 a2_0, .int .i64 a2_1, .int .i64 a2_2] 42 (0, 0))) ∧ (w'.heap[gb118]? = some (.cells #[.int .i64 x119000_2, .int .i64 x119001_2, .int .i64 x119002_2] 37 (0, 0))) ∧ (w'.heap[gb119]? = some (.cells #[.int .i64 a2_1, .int .i64 a2_2] 64 (0, 0))) ∧ (Below w.heap.size w w')) ?_ ?_
                                rotate_left
                                · intro hJ1_7
                                  refine join_ (σ := Nat) 10 #[true, true, true, true, true, true, true, false, true, false, true, true, false, false, true, false, true, true, true, true, true, false, false, false, false, true, false] (fun s_ => [(76, .int .i64 t129), (17, .pointer (some ⟨s_, 0, none⟩)), (80, .int .i64 (wrap64 (t129 * (wrap64 (x16_65 - x15_65)))))]) (fun s_ w' => (w'.cell? ⟨gb119, 0, none⟩ = some (.int .i64 a2_1) ∧ w'.cell? ⟨gb119, 1, none⟩ = some (.int .i64 a2_2)) ∧ (w'.heap[gb117]? = some (.cells #[.int .i64 a2_0, .int .i64 a2_1, .int .i64 a2_2] 42 (0, 0))) ∧ (w'.heap[gb118]? = some (.cells #[.int .i64 x119000_2, .int .i64 x119001_2, .int .i64 x119002_2] 37 (0, 0))) ∧ (w'.heap[gb119]? = some (.cells #[.int .i64 a2_1, .int .i64 a2_2] 64 (0, 0))) ∧ (w'.heap[s_]? = some (.cells #[.int .i64 0, .int .i64 0, .int .i64 0] 37 (0, 0))) ∧ (w.heap.size ≤ s_) ∧ (w.heap.size ≤ s_) ∧ (gb117 ≠ s_) ∧ (s_ ≠ gb117) ∧ (gb118 ≠ s_) ∧ (s_ ≠ gb118) ∧ (gb119 ≠ s_) ∧ (s_ ≠ gb119) ∧ (Below w.heap.size w w')) ?_ ?_
                                  rotate_left
                                  · intro hJ1_25
                                    refine join_ (σ := Unit) 11 #[true, true, true, true, true, true, true, false, true, false, true, true, false, false, true, false, true, true, true, true, true, false, false, false, false, false, false] (fun s_ => [(76, .int .i64 t129), (80, .int .i64 (wrap64 (t129 * (wrap64 (x16_65 - x15_65)))))]) (fun s_ w' => (w'.cell? ⟨gb119, 0, none⟩ = some (.int .i64 a2_1) ∧ w'.cell? ⟨gb119, 1, none⟩ = some (.int .i64 a2_2)) ∧ (w'.heap[gb117]? = some (.cells #[.int .i64 a2_0, .int .i64 a2_1, .int .i64 a2_2] 42 (0, 0))) ∧ (w'.heap[gb118]? = some (.cells #[.int .i64 x119000_2, .int .i64 x119001_2, .int .i64 x119002_2] 37 (0, 0))) ∧ (w'.heap[gb119]? = some (.cells #[.int .i64 a2_1, .int .i64 a2_2] 64 (0, 0))) ∧ (Below w.heap.size w w')) ?_ ?_
                                    rotate_left
                                    · intro hJ1
                                      refine join_ (σ := Nat) 12 #[true, false, true, true, true, false, true, false, true, false, true, true, false, false, true, false, true, true, true, true, true, false, false, false, false, true, false] (fun s_ => [(17, .pointer (some ⟨s_, 0, none⟩))]) (fun s_ w' => (w'.cell? ⟨gb119, 0, none⟩ = some (.int .i64 a2_1) ∧ w'.cell? ⟨gb119, 1, none⟩ = some (.int .i64 a2_2)) ∧ (w'.heap[gb117]? = some (.cells #[.int .i64 a2_0, .int .i64 a2_1, .int .i64 a2_2] 42 (0, 0))) ∧ (w'.heap[gb118]? = some (.cells #[.int .i64 x119000_2, .int .i64 x119001_2, .int .i64 x119002_2] 37 (0, 0))) ∧ (w'.heap[gb119]? = some (.cells #[.int .i64 a2_1, .int .i64 a2_2] 64 (0, 0))) ∧ (w'.heap[s_]? = some (.cells #[.int .i64 0, .int .i64 0, .int .i64 0] 37 (0, 0))) ∧ (w.heap.size ≤ s_) ∧ (w.heap.size ≤ s_) ∧ (gb117 ≠ s_) ∧ (s_ ≠ gb117) ∧ (gb118 ≠ s_) ∧ (s_ ≠ gb118) ∧ (gb119 ≠ s_) ∧ (s_ ≠ gb119) ∧ (Below w.heap.size w w')) ?_ ?_
                                      rotate_left
                                      · intro hJ25
                                        refine two_ (i := 1) (j := 25) (Ni := some 76) (Nj := some 17) #[true, true, true, true, true, false, true, false, true, false, true, true, false, false, true, false, true, true, true, true, true, false, false, false, false, false, false] #[true, false, true, true, true, false, true, false, true, false, true, true, false, false, true, false, true, true, true, true, true, false, false, false, false, true, false] rfl rfl rfl rfl (two_of HT_.out (by kernel_rfl)) (by decide) (by decide) (fun K hK => ?_) (fun K hK => ?_)
                                        · skip
                                          refine goes_ Try.func32 (by kernel_rfl) rfl #[.agg #[.int .i64 a2_1, .int .i64 a2_2]] (by rfl) rfl rfl (by (try simp only [List.map_toArray, List.map_cons, List.map_nil]); first | done | rfl | (simp only [List.length_drop, List.length_take]; rfl)) ?_
                                          with_reducible refine (score_weights_product.calls a2_1 a2_2 t129 _ A72.out).mono ?_
                                          rintro e w79 ⟨rfl, hb⟩
                                          refine ⟨_, rfl, ?_⟩
                                          have n0_ := Aside0.mk (blk_below (g := gb117) (o := .cells #[.int .i64 a2_0, .int .i64 a2_1, .int .i64 a2_2] 42 (0, 0)) (by (with_reducible repeat (first | refine blk_drewN ?_ _ | refine blk_drew ?_ | refine blk_alloc ?_ _)); exact BK117.out) hb)
                                          have n1_ := Aside0.mk (blk_below (g := gb118) (o := .cells #[.int .i64 x119000_2, .int .i64 x119001_2, .int .i64 x119002_2] 37 (0, 0)) (by (with_reducible repeat (first | refine blk_drewN ?_ _ | refine blk_drew ?_ | refine blk_alloc ?_ _)); exact BK118.out) hb)
                                          have n2_ := Aside0.mk (blk_below (g := gb119) (o := .cells #[.int .i64 a2_1, .int .i64 a2_2] 64 (0, 0)) (by (with_reducible repeat (first | refine blk_drewN ?_ _ | refine blk_drew ?_ | refine blk_alloc ?_ _)); exact BK119.out) hb)
                                          have n3_ := Aside0.mk (below_step (by repeat (first | (with_reducible first | exact HB.out | apply below_alloc | apply pw_below_drewN | apply below_drew1 | refine below_set ?_ GE117.out | refine below_set ?_ GE118.out | refine below_set ?_ GE119.out) | exact HB.out)) hb)
                                          clear BK117
                                          clear BK118
                                          clear BK119
                                          clear HB
                                          have BK117 := n0_
                                          have BK118 := n1_
                                          have BK119 := n2_
                                          have HB := n3_
                                          clear n0_ n1_ n2_ n3_
                                          (try clear hb)
                                          (try clear hb2)
                                          (try clear hk)
                                          (try clear hi)
                                          refine hK.out _ _ ⟨(blk_cell BK119.out 0).trans rfl, (blk_cell BK119.out 1).trans rfl⟩ (fun hHeld => ?_)
                                          clear hK K
                                          refine norm_ (a' := ?_) ?_ ?_
                                          rotate_left
                                          · show Act.put _ (some 76) _ = _
                                            simp only [Act.put, List.setIfInBounds_toArray, List.set_cons_zero, List.set_cons_succ, i64_w, i32_w]
                                            rfl
                                          refine pure_ (i := 5) (N := some 80) (v := ?_) (a' := ?_) #[true, true, true, true, true, true, true, false, true, false, true, true, false, false, true, false, true, true, true, true, true, false, false, false, false, false, false] rfl rfl (any_of HT_.out (by kernel_rfl)) (fun _ _ _ h => h) (Or.inl ⟨by rfl, ?_⟩) ?_ ?_
                                          rotate_left
                                          · intro w'
                                            go_simp
                                            with_reducible rfl
                                          rotate_left
                                          · simp only [Act.put, List.setIfInBounds_toArray, List.set_cons_zero, List.set_cons_succ, i64_w, i32_w]
                                            rfl
                                          exact norm_ (by first | (simp only [putAll, Act.put, List.setIfInBounds_toArray, List.set_cons_zero, List.set_cons_succ]; done) | (simp only [putAll, Act.put, List.setIfInBounds_toArray, List.set_cons_zero, List.set_cons_succ]; rfl)) (hJ1 () _ ⟨hHeld, (by (with_reducible repeat (first | refine blk_drewN ?_ _ | refine blk_drew ?_ | refine blk_alloc ?_ _)); exact BK117.out), (by (with_reducible repeat (first | refine blk_drewN ?_ _ | refine blk_drew ?_ | refine blk_alloc ?_ _)); exact BK118.out), (by (with_reducible repeat (first | refine blk_drewN ?_ _ | refine blk_drew ?_ | refine blk_alloc ?_ _)); exact BK119.out), (by repeat (first | (with_reducible first | exact HB.out | apply below_alloc | apply pw_below_drewN | apply below_drew1 | refine below_set ?_ GE117.out | refine below_set ?_ GE118.out | refine below_set ?_ GE119.out) | exact HB.out))⟩)
                                        · skip
                                          refine box_step ?hg (N := 17) ?hd (cs := #[.int .i64 0, .int .i64 0, .int .i64 0]) (t := 37) ?hr ?_; (case hd => rfl); (case hg => rfl); (case hr => first | (go_simp; done) | (go_simp; rfl))
                                          intro gb133 hg w79 hbox hb
                                          have n0_ := Aside0.mk (blk_below (g := gb117) (o := .cells #[.int .i64 a2_0, .int .i64 a2_1, .int .i64 a2_2] 42 (0, 0)) (by (with_reducible repeat (first | refine blk_drewN ?_ _ | refine blk_drew ?_ | refine blk_alloc ?_ _)); exact BK117.out) hb)
                                          have n1_ := Aside0.mk (blk_below (g := gb118) (o := .cells #[.int .i64 x119000_2, .int .i64 x119001_2, .int .i64 x119002_2] 37 (0, 0)) (by (with_reducible repeat (first | refine blk_drewN ?_ _ | refine blk_drew ?_ | refine blk_alloc ?_ _)); exact BK118.out) hb)
                                          have n2_ := Aside0.mk (blk_below (g := gb119) (o := .cells #[.int .i64 a2_1, .int .i64 a2_2] 64 (0, 0)) (by (with_reducible repeat (first | refine blk_drewN ?_ _ | refine blk_drew ?_ | refine blk_alloc ?_ _)); exact BK119.out) hb)
                                          have n3_ := Aside0.mk (below_step (by repeat (first | (with_reducible first | exact HB.out | apply below_alloc | apply pw_below_drewN | apply below_drew1 | refine below_set ?_ GE117.out | refine below_set ?_ GE118.out | refine below_set ?_ GE119.out) | exact HB.out)) hb)
                                          have n4_ := Aside0.mk (hbox)
                                          have n5_ := Aside0.mk ((by rw [hg]; exact (below_size (by repeat (first | (with_reducible first | exact HB.out | apply below_alloc | apply pw_below_drewN | apply below_drew1 | refine below_set ?_ GE117.out | refine below_set ?_ GE118.out | refine below_set ?_ GE119.out) | exact HB.out))) : w.heap.size ≤ gb133))
                                          have n6_ := Aside0.mk ((by rw [hg]; exact (below_size (by repeat (first | (with_reducible first | exact HB.out | apply below_alloc | apply pw_below_drewN | apply below_drew1 | refine below_set ?_ GE117.out | refine below_set ?_ GE118.out | refine below_set ?_ GE119.out) | exact HB.out))) : w.heap.size ≤ gb133))
                                          have n7_ := Aside0.mk ((by rw [hg]; exact Nat.ne_of_lt (blk_lt (g := gb117) (o := .cells #[.int .i64 a2_0, .int .i64 a2_1, .int .i64 a2_2] 42 (0, 0)) (by (with_reducible repeat (first | refine blk_drewN ?_ _ | refine blk_drew ?_ | refine blk_alloc ?_ _)); exact BK117.out)) : gb117 ≠ gb133))
                                          have n8_ := Aside0.mk ((by rw [hg]; exact Nat.ne_of_gt (blk_lt (g := gb117) (o := .cells #[.int .i64 a2_0, .int .i64 a2_1, .int .i64 a2_2] 42 (0, 0)) (by (with_reducible repeat (first | refine blk_drewN ?_ _ | refine blk_drew ?_ | refine blk_alloc ?_ _)); exact BK117.out)) : gb133 ≠ gb117))
                                          have n9_ := Aside0.mk ((by rw [hg]; exact Nat.ne_of_lt (blk_lt (g := gb118) (o := .cells #[.int .i64 x119000_2, .int .i64 x119001_2, .int .i64 x119002_2] 37 (0, 0)) (by (with_reducible repeat (first | refine blk_drewN ?_ _ | refine blk_drew ?_ | refine blk_alloc ?_ _)); exact BK118.out)) : gb118 ≠ gb133))
                                          have n10_ := Aside0.mk ((by rw [hg]; exact Nat.ne_of_gt (blk_lt (g := gb118) (o := .cells #[.int .i64 x119000_2, .int .i64 x119001_2, .int .i64 x119002_2] 37 (0, 0)) (by (with_reducible repeat (first | refine blk_drewN ?_ _ | refine blk_drew ?_ | refine blk_alloc ?_ _)); exact BK118.out)) : gb133 ≠ gb118))
                                          have n11_ := Aside0.mk ((by rw [hg]; exact Nat.ne_of_lt (blk_lt (g := gb119) (o := .cells #[.int .i64 a2_1, .int .i64 a2_2] 64 (0, 0)) (by (with_reducible repeat (first | refine blk_drewN ?_ _ | refine blk_drew ?_ | refine blk_alloc ?_ _)); exact BK119.out)) : gb119 ≠ gb133))
                                          have n12_ := Aside0.mk ((by rw [hg]; exact Nat.ne_of_gt (blk_lt (g := gb119) (o := .cells #[.int .i64 a2_1, .int .i64 a2_2] 64 (0, 0)) (by (with_reducible repeat (first | refine blk_drewN ?_ _ | refine blk_drew ?_ | refine blk_alloc ?_ _)); exact BK119.out)) : gb133 ≠ gb119))
                                          clear BK117
                                          clear BK118
                                          clear BK119
                                          clear HB
                                          have BK117 := n0_
                                          have BK118 := n1_
                                          have BK119 := n2_
                                          have HB := n3_
                                          have BK133 := n4_
                                          have GW133 := n5_
                                          have GE133 := n6_
                                          have NB117_133 := n7_
                                          have NB133_117 := n8_
                                          have NB118_133 := n9_
                                          have NB133_118 := n10_
                                          have NB119_133 := n11_
                                          have NB133_119 := n12_
                                          clear n0_ n1_ n2_ n3_ n4_ n5_ n6_ n7_ n8_ n9_ n10_ n11_ n12_
                                          clear hb hbox hg
                                          refine hK.out _ _ ⟨(blk_cell BK119.out 0).trans rfl, (blk_cell BK119.out 1).trans rfl⟩ (fun hHeld => ?_)
                                          clear hK K
                                          refine norm_ (a' := ?_) ?_ ?_
                                          rotate_left
                                          · show Act.put _ (some 17) _ = _
                                            simp only [Act.put, List.setIfInBounds_toArray, List.set_cons_zero, List.set_cons_succ, i64_w, i32_w]
                                            rfl
                                          exact norm_ (by first | (simp only [putAll, Act.put, List.setIfInBounds_toArray, List.set_cons_zero, List.set_cons_succ]; done) | (simp only [putAll, Act.put, List.setIfInBounds_toArray, List.set_cons_zero, List.set_cons_succ]; rfl)) (hJ25 (gb133) _ ⟨hHeld, (by (with_reducible repeat (first | refine blk_drewN ?_ _ | refine blk_drew ?_ | refine blk_alloc ?_ _)); exact BK117.out), (by (with_reducible repeat (first | refine blk_drewN ?_ _ | refine blk_drew ?_ | refine blk_alloc ?_ _)); exact BK118.out), (by (with_reducible repeat (first | refine blk_drewN ?_ _ | refine blk_drew ?_ | refine blk_alloc ?_ _)); exact BK119.out), (by (with_reducible repeat (first | refine blk_drewN ?_ _ | refine blk_drew ?_ | refine blk_alloc ?_ _)); exact BK133.out), GW133.out, GE133.out, NB117_133.out, NB133_117.out, NB118_133.out, NB133_118.out, NB119_133.out, NB133_119.out, (by repeat (first | (with_reducible first | exact HB.out | apply below_alloc | apply pw_below_drewN | apply below_drew1 | refine below_set ?_ GE117.out | refine below_set ?_ GE118.out | refine below_set ?_ GE119.out | refine below_set ?_ GE133.out) | exact HB.out))⟩)
                                      · skip
                                        rintro gb133 w80 ⟨hS_, h0_, h1_, h2_, h3_, h4_, h5_, h6_, h7_, h8_, h9_, h10_, h11_, h12_⟩
                                        have n0_ : Aside0 (w80.heap[gb117]? = some (.cells #[.int .i64 a2_0, .int .i64 a2_1, .int .i64 a2_2] 42 (0, 0))) := ⟨h0_⟩
                                        have n1_ : Aside0 (w80.heap[gb118]? = some (.cells #[.int .i64 x119000_2, .int .i64 x119001_2, .int .i64 x119002_2] 37 (0, 0))) := ⟨h1_⟩
                                        have n2_ : Aside0 (w80.heap[gb119]? = some (.cells #[.int .i64 a2_1, .int .i64 a2_2] 64 (0, 0))) := ⟨h2_⟩
                                        have n3_ : Aside0 (w80.heap[gb133]? = some (.cells #[.int .i64 0, .int .i64 0, .int .i64 0] 37 (0, 0))) := ⟨h3_⟩
                                        have n4_ : Aside0 (w.heap.size ≤ gb133) := ⟨h4_⟩
                                        have n5_ : Aside0 (w.heap.size ≤ gb133) := ⟨h5_⟩
                                        have n6_ : Aside0 (gb117 ≠ gb133) := ⟨h6_⟩
                                        have n7_ : Aside0 (gb133 ≠ gb117) := ⟨h7_⟩
                                        have n8_ : Aside0 (gb118 ≠ gb133) := ⟨h8_⟩
                                        have n9_ : Aside0 (gb133 ≠ gb118) := ⟨h9_⟩
                                        have n10_ : Aside0 (gb119 ≠ gb133) := ⟨h10_⟩
                                        have n11_ : Aside0 (gb133 ≠ gb119) := ⟨h11_⟩
                                        have n12_ : Aside0 (Below w.heap.size w w80) := ⟨h12_⟩
                                        clear BK117
                                        clear BK118
                                        clear BK119
                                        clear HB
                                        clear h0_ h1_ h2_ h3_ h4_ h5_ h6_ h7_ h8_ h9_ h10_ h11_ h12_
                                        have BK117 := n0_
                                        have BK118 := n1_
                                        have BK119 := n2_
                                        have BK133 := n3_
                                        have GW133 := n4_
                                        have GE133 := n5_
                                        have NB117_133 := n6_
                                        have NB133_117 := n7_
                                        have NB118_133 := n8_
                                        have NB133_118 := n9_
                                        have NB119_133 := n10_
                                        have NB133_119 := n11_
                                        have HB := n12_
                                        clear n0_ n1_ n2_ n3_ n4_ n5_ n6_ n7_ n8_ n9_ n10_ n11_ n12_
                                        have hHeld : w80.cell? ⟨gb119, 0, none⟩ = some (.int .i64 a2_1) ∧ w80.cell? ⟨gb119, 1, none⟩ = some (.int .i64 a2_2) := hS_
                                        refine norm_ (a' := ?_) ?_ ?_
                                        rotate_left
                                        · simp only [putAll, Act.put, List.setIfInBounds_toArray, List.set_cons_zero, List.set_cons_succ]
                                          rfl
                                        refine one_ (i := 1) (N := some 76) #[true, true, true, true, true, false, true, false, true, false, true, true, false, false, true, false, true, true, true, true, true, false, false, false, false, true, false] rfl rfl (one_of HT_.out (by kernel_rfl)) (by decide) (fun K hK => ?_)
                                        refine goes_ Try.func32 (by kernel_rfl) rfl #[.agg #[.int .i64 a2_1, .int .i64 a2_2]] (by rfl) rfl rfl (by (try simp only [List.map_toArray, List.map_cons, List.map_nil]); first | done | rfl | (simp only [List.length_drop, List.length_take]; rfl)) ?_
                                        with_reducible refine (score_weights_product.calls a2_1 a2_2 t129 _ A72.out).mono ?_
                                        rintro e w81 ⟨rfl, hb⟩
                                        refine ⟨_, rfl, ?_⟩
                                        have n0_ := Aside0.mk (blk_below (g := gb117) (o := .cells #[.int .i64 a2_0, .int .i64 a2_1, .int .i64 a2_2] 42 (0, 0)) (by (with_reducible repeat (first | refine blk_drewN ?_ _ | refine blk_drew ?_ | refine blk_alloc ?_ _)); exact BK117.out) hb)
                                        have n1_ := Aside0.mk (blk_below (g := gb118) (o := .cells #[.int .i64 x119000_2, .int .i64 x119001_2, .int .i64 x119002_2] 37 (0, 0)) (by (with_reducible repeat (first | refine blk_drewN ?_ _ | refine blk_drew ?_ | refine blk_alloc ?_ _)); exact BK118.out) hb)
                                        have n2_ := Aside0.mk (blk_below (g := gb119) (o := .cells #[.int .i64 a2_1, .int .i64 a2_2] 64 (0, 0)) (by (with_reducible repeat (first | refine blk_drewN ?_ _ | refine blk_drew ?_ | refine blk_alloc ?_ _)); exact BK119.out) hb)
                                        have n3_ := Aside0.mk (blk_below (g := gb133) (o := .cells #[.int .i64 0, .int .i64 0, .int .i64 0] 37 (0, 0)) (by (with_reducible repeat (first | refine blk_drewN ?_ _ | refine blk_drew ?_ | refine blk_alloc ?_ _)); exact BK133.out) hb)
                                        have n4_ := Aside0.mk (below_step (by repeat (first | (with_reducible first | exact HB.out | apply below_alloc | apply pw_below_drewN | apply below_drew1 | refine below_set ?_ GE117.out | refine below_set ?_ GE118.out | refine below_set ?_ GE119.out | refine below_set ?_ GE133.out) | exact HB.out)) hb)
                                        clear BK117
                                        clear BK118
                                        clear BK119
                                        clear BK133
                                        clear HB
                                        have BK117 := n0_
                                        have BK118 := n1_
                                        have BK119 := n2_
                                        have BK133 := n3_
                                        have HB := n4_
                                        clear n0_ n1_ n2_ n3_ n4_
                                        (try clear hb)
                                        (try clear hb2)
                                        (try clear hk)
                                        (try clear hi)
                                        refine hK.out _ _ ⟨(blk_cell BK119.out 0).trans rfl, (blk_cell BK119.out 1).trans rfl⟩ (fun hHeld => ?_)
                                        clear hK K
                                        refine norm_ (a' := ?_) ?_ ?_
                                        rotate_left
                                        · show Act.put _ (some 76) _ = _
                                          simp only [Act.put, List.setIfInBounds_toArray, List.set_cons_zero, List.set_cons_succ, i64_w, i32_w]
                                          rfl
                                        refine pure_ (i := 5) (N := some 80) (v := ?_) (a' := ?_) #[true, true, true, true, true, true, true, false, true, false, true, true, false, false, true, false, true, true, true, true, true, false, false, false, false, true, false] rfl rfl (any_of HT_.out (by kernel_rfl)) (fun _ _ _ h => h) (Or.inl ⟨by rfl, ?_⟩) ?_ ?_
                                        rotate_left
                                        · intro w'
                                          go_simp
                                          with_reducible rfl
                                        rotate_left
                                        · simp only [Act.put, List.setIfInBounds_toArray, List.set_cons_zero, List.set_cons_succ, i64_w, i32_w]
                                          rfl
                                        exact norm_ (by first | (simp only [putAll, Act.put, List.setIfInBounds_toArray, List.set_cons_zero, List.set_cons_succ]; done) | (simp only [putAll, Act.put, List.setIfInBounds_toArray, List.set_cons_zero, List.set_cons_succ]; rfl)) (hJ1_25 (gb133) _ ⟨hHeld, (by (with_reducible repeat (first | refine blk_drewN ?_ _ | refine blk_drew ?_ | refine blk_alloc ?_ _)); exact BK117.out), (by (with_reducible repeat (first | refine blk_drewN ?_ _ | refine blk_drew ?_ | refine blk_alloc ?_ _)); exact BK118.out), (by (with_reducible repeat (first | refine blk_drewN ?_ _ | refine blk_drew ?_ | refine blk_alloc ?_ _)); exact BK119.out), (by (with_reducible repeat (first | refine blk_drewN ?_ _ | refine blk_drew ?_ | refine blk_alloc ?_ _)); exact BK133.out), GW133.out, GE133.out, NB117_133.out, NB133_117.out, NB118_133.out, NB133_118.out, NB119_133.out, NB133_119.out, (by repeat (first | (with_reducible first | exact HB.out | apply below_alloc | apply pw_below_drewN | apply below_drew1 | refine below_set ?_ GE117.out | refine below_set ?_ GE118.out | refine below_set ?_ GE119.out | refine below_set ?_ GE133.out) | exact HB.out))⟩)
                                    · skip
                                      rintro _ w80 ⟨hS_, h0_, h1_, h2_, h3_⟩
                                      have n0_ : Aside0 (w80.heap[gb117]? = some (.cells #[.int .i64 a2_0, .int .i64 a2_1, .int .i64 a2_2] 42 (0, 0))) := ⟨h0_⟩
                                      have n1_ : Aside0 (w80.heap[gb118]? = some (.cells #[.int .i64 x119000_2, .int .i64 x119001_2, .int .i64 x119002_2] 37 (0, 0))) := ⟨h1_⟩
                                      have n2_ : Aside0 (w80.heap[gb119]? = some (.cells #[.int .i64 a2_1, .int .i64 a2_2] 64 (0, 0))) := ⟨h2_⟩
                                      have n3_ : Aside0 (Below w.heap.size w w80) := ⟨h3_⟩
                                      clear BK117
                                      clear BK118
                                      clear BK119
                                      clear HB
                                      clear h0_ h1_ h2_ h3_
                                      have BK117 := n0_
                                      have BK118 := n1_
                                      have BK119 := n2_
                                      have HB := n3_
                                      clear n0_ n1_ n2_ n3_
                                      have hHeld : w80.cell? ⟨gb119, 0, none⟩ = some (.int .i64 a2_1) ∧ w80.cell? ⟨gb119, 1, none⟩ = some (.int .i64 a2_2) := hS_
                                      refine norm_ (a' := ?_) ?_ ?_
                                      rotate_left
                                      · simp only [putAll, Act.put, List.setIfInBounds_toArray, List.set_cons_zero, List.set_cons_succ]
                                        rfl
                                      refine two_ (i := 7) (j := 25) (Ni := some 82) (Nj := some 17) #[true, true, true, true, true, true, true, true, true, false, true, true, false, false, true, false, true, true, true, true, true, false, false, false, false, false, false] #[true, true, true, true, true, true, true, false, true, false, true, true, false, false, true, false, true, true, true, true, true, false, false, false, false, true, false] rfl rfl rfl rfl (two_of HT_.out (by kernel_rfl)) (by decide) (by decide) (fun K hK => ?_) (fun K hK => ?_)
                                      · skip
                                        refine goes_ Try.func32 (by kernel_rfl) rfl #[.agg #[.int .i64 a2_1, .int .i64 a2_2]] (by rfl) rfl rfl (by (try simp only [List.map_toArray, List.map_cons, List.map_nil]); first | done | rfl | (simp only [List.length_drop, List.length_take]; rfl)) ?_
                                        with_reducible refine (score_weights_product.calls a2_1 a2_2 t130 _ A73.out).mono ?_
                                        rintro e w81 ⟨rfl, hb⟩
                                        refine ⟨_, rfl, ?_⟩
                                        have n0_ := Aside0.mk (blk_below (g := gb117) (o := .cells #[.int .i64 a2_0, .int .i64 a2_1, .int .i64 a2_2] 42 (0, 0)) (by (with_reducible repeat (first | refine blk_drewN ?_ _ | refine blk_drew ?_ | refine blk_alloc ?_ _)); exact BK117.out) hb)
                                        have n1_ := Aside0.mk (blk_below (g := gb118) (o := .cells #[.int .i64 x119000_2, .int .i64 x119001_2, .int .i64 x119002_2] 37 (0, 0)) (by (with_reducible repeat (first | refine blk_drewN ?_ _ | refine blk_drew ?_ | refine blk_alloc ?_ _)); exact BK118.out) hb)
                                        have n2_ := Aside0.mk (blk_below (g := gb119) (o := .cells #[.int .i64 a2_1, .int .i64 a2_2] 64 (0, 0)) (by (with_reducible repeat (first | refine blk_drewN ?_ _ | refine blk_drew ?_ | refine blk_alloc ?_ _)); exact BK119.out) hb)
                                        have n3_ := Aside0.mk (below_step (by repeat (first | (with_reducible first | exact HB.out | apply below_alloc | apply pw_below_drewN | apply below_drew1 | refine below_set ?_ GE117.out | refine below_set ?_ GE118.out | refine below_set ?_ GE119.out) | exact HB.out)) hb)
                                        clear BK117
                                        clear BK118
                                        clear BK119
                                        clear HB
                                        have BK117 := n0_
                                        have BK118 := n1_
                                        have BK119 := n2_
                                        have HB := n3_
                                        clear n0_ n1_ n2_ n3_
                                        (try clear hb)
                                        (try clear hb2)
                                        (try clear hk)
                                        (try clear hi)
                                        refine hK.out _ _ ⟨(blk_cell BK119.out 0).trans rfl, (blk_cell BK119.out 1).trans rfl⟩ (fun hHeld => ?_)
                                        clear hK K
                                        refine norm_ (a' := ?_) ?_ ?_
                                        rotate_left
                                        · show Act.put _ (some 82) _ = _
                                          simp only [Act.put, List.setIfInBounds_toArray, List.set_cons_zero, List.set_cons_succ, i64_w, i32_w]
                                          rfl
                                        refine pure_ (i := 9) (N := some 84) (v := ?_) (a' := ?_) #[true, true, true, true, true, true, true, true, true, true, true, true, false, false, true, false, true, true, true, true, true, false, false, false, false, false, false] rfl rfl (any_of HT_.out (by kernel_rfl)) (fun _ _ _ h => h) (Or.inl ⟨by rfl, ?_⟩) ?_ ?_
                                        rotate_left
                                        · intro w'
                                          go_simp
                                          with_reducible rfl
                                        rotate_left
                                        · simp only [Act.put, List.setIfInBounds_toArray, List.set_cons_zero, List.set_cons_succ, i64_w, i32_w]
                                          rfl
                                        exact norm_ (by first | (simp only [putAll, Act.put, List.setIfInBounds_toArray, List.set_cons_zero, List.set_cons_succ]; done) | (simp only [putAll, Act.put, List.setIfInBounds_toArray, List.set_cons_zero, List.set_cons_succ]; rfl)) (hJ1_7 () _ ⟨hHeld, (by (with_reducible repeat (first | refine blk_drewN ?_ _ | refine blk_drew ?_ | refine blk_alloc ?_ _)); exact BK117.out), (by (with_reducible repeat (first | refine blk_drewN ?_ _ | refine blk_drew ?_ | refine blk_alloc ?_ _)); exact BK118.out), (by (with_reducible repeat (first | refine blk_drewN ?_ _ | refine blk_drew ?_ | refine blk_alloc ?_ _)); exact BK119.out), (by repeat (first | (with_reducible first | exact HB.out | apply below_alloc | apply pw_below_drewN | apply below_drew1 | refine below_set ?_ GE117.out | refine below_set ?_ GE118.out | refine below_set ?_ GE119.out) | exact HB.out))⟩)
                                      · skip
                                        refine box_step ?hg (N := 17) ?hd (cs := #[.int .i64 0, .int .i64 0, .int .i64 0]) (t := 37) ?hr ?_; (case hd => rfl); (case hg => rfl); (case hr => first | (go_simp; done) | (go_simp; rfl))
                                        intro gb133 hg w81 hbox hb
                                        have n0_ := Aside0.mk (blk_below (g := gb117) (o := .cells #[.int .i64 a2_0, .int .i64 a2_1, .int .i64 a2_2] 42 (0, 0)) (by (with_reducible repeat (first | refine blk_drewN ?_ _ | refine blk_drew ?_ | refine blk_alloc ?_ _)); exact BK117.out) hb)
                                        have n1_ := Aside0.mk (blk_below (g := gb118) (o := .cells #[.int .i64 x119000_2, .int .i64 x119001_2, .int .i64 x119002_2] 37 (0, 0)) (by (with_reducible repeat (first | refine blk_drewN ?_ _ | refine blk_drew ?_ | refine blk_alloc ?_ _)); exact BK118.out) hb)
                                        have n2_ := Aside0.mk (blk_below (g := gb119) (o := .cells #[.int .i64 a2_1, .int .i64 a2_2] 64 (0, 0)) (by (with_reducible repeat (first | refine blk_drewN ?_ _ | refine blk_drew ?_ | refine blk_alloc ?_ _)); exact BK119.out) hb)
                                        have n3_ := Aside0.mk (below_step (by repeat (first | (with_reducible first | exact HB.out | apply below_alloc | apply pw_below_drewN | apply below_drew1 | refine below_set ?_ GE117.out | refine below_set ?_ GE118.out | refine below_set ?_ GE119.out) | exact HB.out)) hb)
                                        have n4_ := Aside0.mk (hbox)
                                        have n5_ := Aside0.mk ((by rw [hg]; exact (below_size (by repeat (first | (with_reducible first | exact HB.out | apply below_alloc | apply pw_below_drewN | apply below_drew1 | refine below_set ?_ GE117.out | refine below_set ?_ GE118.out | refine below_set ?_ GE119.out) | exact HB.out))) : w.heap.size ≤ gb133))
                                        have n6_ := Aside0.mk ((by rw [hg]; exact (below_size (by repeat (first | (with_reducible first | exact HB.out | apply below_alloc | apply pw_below_drewN | apply below_drew1 | refine below_set ?_ GE117.out | refine below_set ?_ GE118.out | refine below_set ?_ GE119.out) | exact HB.out))) : w.heap.size ≤ gb133))
                                        have n7_ := Aside0.mk ((by rw [hg]; exact Nat.ne_of_lt (blk_lt (g := gb117) (o := .cells #[.int .i64 a2_0, .int .i64 a2_1, .int .i64 a2_2] 42 (0, 0)) (by (with_reducible repeat (first | refine blk_drewN ?_ _ | refine blk_drew ?_ | refine blk_alloc ?_ _)); exact BK117.out)) : gb117 ≠ gb133))
                                        have n8_ := Aside0.mk ((by rw [hg]; exact Nat.ne_of_gt (blk_lt (g := gb117) (o := .cells #[.int .i64 a2_0, .int .i64 a2_1, .int .i64 a2_2] 42 (0, 0)) (by (with_reducible repeat (first | refine blk_drewN ?_ _ | refine blk_drew ?_ | refine blk_alloc ?_ _)); exact BK117.out)) : gb133 ≠ gb117))
                                        have n9_ := Aside0.mk ((by rw [hg]; exact Nat.ne_of_lt (blk_lt (g := gb118) (o := .cells #[.int .i64 x119000_2, .int .i64 x119001_2, .int .i64 x119002_2] 37 (0, 0)) (by (with_reducible repeat (first | refine blk_drewN ?_ _ | refine blk_drew ?_ | refine blk_alloc ?_ _)); exact BK118.out)) : gb118 ≠ gb133))
                                        have n10_ := Aside0.mk ((by rw [hg]; exact Nat.ne_of_gt (blk_lt (g := gb118) (o := .cells #[.int .i64 x119000_2, .int .i64 x119001_2, .int .i64 x119002_2] 37 (0, 0)) (by (with_reducible repeat (first | refine blk_drewN ?_ _ | refine blk_drew ?_ | refine blk_alloc ?_ _)); exact BK118.out)) : gb133 ≠ gb118))
                                        have n11_ := Aside0.mk ((by rw [hg]; exact Nat.ne_of_lt (blk_lt (g := gb119) (o := .cells #[.int .i64 a2_1, .int .i64 a2_2] 64 (0, 0)) (by (with_reducible repeat (first | refine blk_drewN ?_ _ | refine blk_drew ?_ | refine blk_alloc ?_ _)); exact BK119.out)) : gb119 ≠ gb133))
                                        have n12_ := Aside0.mk ((by rw [hg]; exact Nat.ne_of_gt (blk_lt (g := gb119) (o := .cells #[.int .i64 a2_1, .int .i64 a2_2] 64 (0, 0)) (by (with_reducible repeat (first | refine blk_drewN ?_ _ | refine blk_drew ?_ | refine blk_alloc ?_ _)); exact BK119.out)) : gb133 ≠ gb119))
                                        clear BK117
                                        clear BK118
                                        clear BK119
                                        clear HB
                                        have BK117 := n0_
                                        have BK118 := n1_
                                        have BK119 := n2_
                                        have HB := n3_
                                        have BK133 := n4_
                                        have GW133 := n5_
                                        have GE133 := n6_
                                        have NB117_133 := n7_
                                        have NB133_117 := n8_
                                        have NB118_133 := n9_
                                        have NB133_118 := n10_
                                        have NB119_133 := n11_
                                        have NB133_119 := n12_
                                        clear n0_ n1_ n2_ n3_ n4_ n5_ n6_ n7_ n8_ n9_ n10_ n11_ n12_
                                        clear hb hbox hg
                                        refine hK.out _ _ ⟨(blk_cell BK119.out 0).trans rfl, (blk_cell BK119.out 1).trans rfl⟩ (fun hHeld => ?_)
                                        clear hK K
                                        refine norm_ (a' := ?_) ?_ ?_
                                        rotate_left
                                        · show Act.put _ (some 17) _ = _
                                          simp only [Act.put, List.setIfInBounds_toArray, List.set_cons_zero, List.set_cons_succ, i64_w, i32_w]
                                          rfl
                                        exact norm_ (by first | (simp only [putAll, Act.put, List.setIfInBounds_toArray, List.set_cons_zero, List.set_cons_succ]; done) | (simp only [putAll, Act.put, List.setIfInBounds_toArray, List.set_cons_zero, List.set_cons_succ]; rfl)) (hJ1_25 (gb133) _ ⟨hHeld, (by (with_reducible repeat (first | refine blk_drewN ?_ _ | refine blk_drew ?_ | refine blk_alloc ?_ _)); exact BK117.out), (by (with_reducible repeat (first | refine blk_drewN ?_ _ | refine blk_drew ?_ | refine blk_alloc ?_ _)); exact BK118.out), (by (with_reducible repeat (first | refine blk_drewN ?_ _ | refine blk_drew ?_ | refine blk_alloc ?_ _)); exact BK119.out), (by (with_reducible repeat (first | refine blk_drewN ?_ _ | refine blk_drew ?_ | refine blk_alloc ?_ _)); exact BK133.out), GW133.out, GE133.out, NB117_133.out, NB133_117.out, NB118_133.out, NB133_118.out, NB119_133.out, NB133_119.out, (by repeat (first | (with_reducible first | exact HB.out | apply below_alloc | apply pw_below_drewN | apply below_drew1 | refine below_set ?_ GE117.out | refine below_set ?_ GE118.out | refine below_set ?_ GE119.out | refine below_set ?_ GE133.out) | exact HB.out))⟩)
                                  · skip
                                    rintro gb133 w81 ⟨hS_, h0_, h1_, h2_, h3_, h4_, h5_, h6_, h7_, h8_, h9_, h10_, h11_, h12_⟩
                                    have n0_ : Aside0 (w81.heap[gb117]? = some (.cells #[.int .i64 a2_0, .int .i64 a2_1, .int .i64 a2_2] 42 (0, 0))) := ⟨h0_⟩
                                    have n1_ : Aside0 (w81.heap[gb118]? = some (.cells #[.int .i64 x119000_2, .int .i64 x119001_2, .int .i64 x119002_2] 37 (0, 0))) := ⟨h1_⟩
                                    have n2_ : Aside0 (w81.heap[gb119]? = some (.cells #[.int .i64 a2_1, .int .i64 a2_2] 64 (0, 0))) := ⟨h2_⟩
                                    have n3_ : Aside0 (w81.heap[gb133]? = some (.cells #[.int .i64 0, .int .i64 0, .int .i64 0] 37 (0, 0))) := ⟨h3_⟩
                                    have n4_ : Aside0 (w.heap.size ≤ gb133) := ⟨h4_⟩
                                    have n5_ : Aside0 (w.heap.size ≤ gb133) := ⟨h5_⟩
                                    have n6_ : Aside0 (gb117 ≠ gb133) := ⟨h6_⟩
                                    have n7_ : Aside0 (gb133 ≠ gb117) := ⟨h7_⟩
                                    have n8_ : Aside0 (gb118 ≠ gb133) := ⟨h8_⟩
                                    have n9_ : Aside0 (gb133 ≠ gb118) := ⟨h9_⟩
                                    have n10_ : Aside0 (gb119 ≠ gb133) := ⟨h10_⟩
                                    have n11_ : Aside0 (gb133 ≠ gb119) := ⟨h11_⟩
                                    have n12_ : Aside0 (Below w.heap.size w w81) := ⟨h12_⟩
                                    clear BK117
                                    clear BK118
                                    clear BK119
                                    clear HB
                                    clear h0_ h1_ h2_ h3_ h4_ h5_ h6_ h7_ h8_ h9_ h10_ h11_ h12_
                                    have BK117 := n0_
                                    have BK118 := n1_
                                    have BK119 := n2_
                                    have BK133 := n3_
                                    have GW133 := n4_
                                    have GE133 := n5_
                                    have NB117_133 := n6_
                                    have NB133_117 := n7_
                                    have NB118_133 := n8_
                                    have NB133_118 := n9_
                                    have NB119_133 := n10_
                                    have NB133_119 := n11_
                                    have HB := n12_
                                    clear n0_ n1_ n2_ n3_ n4_ n5_ n6_ n7_ n8_ n9_ n10_ n11_ n12_
                                    have hHeld : w81.cell? ⟨gb119, 0, none⟩ = some (.int .i64 a2_1) ∧ w81.cell? ⟨gb119, 1, none⟩ = some (.int .i64 a2_2) := hS_
                                    refine norm_ (a' := ?_) ?_ ?_
                                    rotate_left
                                    · simp only [putAll, Act.put, List.setIfInBounds_toArray, List.set_cons_zero, List.set_cons_succ]
                                      rfl
                                    refine one_ (i := 7) (N := some 82) #[true, true, true, true, true, true, true, true, true, false, true, true, false, false, true, false, true, true, true, true, true, false, false, false, false, true, false] rfl rfl (one_of HT_.out (by kernel_rfl)) (by decide) (fun K hK => ?_)
                                    refine goes_ Try.func32 (by kernel_rfl) rfl #[.agg #[.int .i64 a2_1, .int .i64 a2_2]] (by rfl) rfl rfl (by (try simp only [List.map_toArray, List.map_cons, List.map_nil]); first | done | rfl | (simp only [List.length_drop, List.length_take]; rfl)) ?_
                                    with_reducible refine (score_weights_product.calls a2_1 a2_2 t130 _ A73.out).mono ?_
                                    rintro e w82 ⟨rfl, hb⟩
                                    refine ⟨_, rfl, ?_⟩
                                    have n0_ := Aside0.mk (blk_below (g := gb117) (o := .cells #[.int .i64 a2_0, .int .i64 a2_1, .int .i64 a2_2] 42 (0, 0)) (by (with_reducible repeat (first | refine blk_drewN ?_ _ | refine blk_drew ?_ | refine blk_alloc ?_ _)); exact BK117.out) hb)
                                    have n1_ := Aside0.mk (blk_below (g := gb118) (o := .cells #[.int .i64 x119000_2, .int .i64 x119001_2, .int .i64 x119002_2] 37 (0, 0)) (by (with_reducible repeat (first | refine blk_drewN ?_ _ | refine blk_drew ?_ | refine blk_alloc ?_ _)); exact BK118.out) hb)
                                    have n2_ := Aside0.mk (blk_below (g := gb119) (o := .cells #[.int .i64 a2_1, .int .i64 a2_2] 64 (0, 0)) (by (with_reducible repeat (first | refine blk_drewN ?_ _ | refine blk_drew ?_ | refine blk_alloc ?_ _)); exact BK119.out) hb)
                                    have n3_ := Aside0.mk (blk_below (g := gb133) (o := .cells #[.int .i64 0, .int .i64 0, .int .i64 0] 37 (0, 0)) (by (with_reducible repeat (first | refine blk_drewN ?_ _ | refine blk_drew ?_ | refine blk_alloc ?_ _)); exact BK133.out) hb)
                                    have n4_ := Aside0.mk (below_step (by repeat (first | (with_reducible first | exact HB.out | apply below_alloc | apply pw_below_drewN | apply below_drew1 | refine below_set ?_ GE117.out | refine below_set ?_ GE118.out | refine below_set ?_ GE119.out | refine below_set ?_ GE133.out) | exact HB.out)) hb)
                                    clear BK117
                                    clear BK118
                                    clear BK119
                                    clear BK133
                                    clear HB
                                    have BK117 := n0_
                                    have BK118 := n1_
                                    have BK119 := n2_
                                    have BK133 := n3_
                                    have HB := n4_
                                    clear n0_ n1_ n2_ n3_ n4_
                                    (try clear hb)
                                    (try clear hb2)
                                    (try clear hk)
                                    (try clear hi)
                                    refine hK.out _ _ ⟨(blk_cell BK119.out 0).trans rfl, (blk_cell BK119.out 1).trans rfl⟩ (fun hHeld => ?_)
                                    clear hK K
                                    refine norm_ (a' := ?_) ?_ ?_
                                    rotate_left
                                    · show Act.put _ (some 82) _ = _
                                      simp only [Act.put, List.setIfInBounds_toArray, List.set_cons_zero, List.set_cons_succ, i64_w, i32_w]
                                      rfl
                                    refine pure_ (i := 9) (N := some 84) (v := ?_) (a' := ?_) #[true, true, true, true, true, true, true, true, true, true, true, true, false, false, true, false, true, true, true, true, true, false, false, false, false, true, false] rfl rfl (any_of HT_.out (by kernel_rfl)) (fun _ _ _ h => h) (Or.inl ⟨by rfl, ?_⟩) ?_ ?_
                                    rotate_left
                                    · intro w'
                                      go_simp
                                      with_reducible rfl
                                    rotate_left
                                    · simp only [Act.put, List.setIfInBounds_toArray, List.set_cons_zero, List.set_cons_succ, i64_w, i32_w]
                                      rfl
                                    exact norm_ (by first | (simp only [putAll, Act.put, List.setIfInBounds_toArray, List.set_cons_zero, List.set_cons_succ]; done) | (simp only [putAll, Act.put, List.setIfInBounds_toArray, List.set_cons_zero, List.set_cons_succ]; rfl)) (hJ1_7_25 (gb133) _ ⟨hHeld, (by (with_reducible repeat (first | refine blk_drewN ?_ _ | refine blk_drew ?_ | refine blk_alloc ?_ _)); exact BK117.out), (by (with_reducible repeat (first | refine blk_drewN ?_ _ | refine blk_drew ?_ | refine blk_alloc ?_ _)); exact BK118.out), (by (with_reducible repeat (first | refine blk_drewN ?_ _ | refine blk_drew ?_ | refine blk_alloc ?_ _)); exact BK119.out), (by (with_reducible repeat (first | refine blk_drewN ?_ _ | refine blk_drew ?_ | refine blk_alloc ?_ _)); exact BK133.out), GW133.out, GE133.out, NB117_133.out, NB133_117.out, NB118_133.out, NB133_118.out, NB119_133.out, NB133_119.out, (by repeat (first | (with_reducible first | exact HB.out | apply below_alloc | apply pw_below_drewN | apply below_drew1 | refine below_set ?_ GE117.out | refine below_set ?_ GE118.out | refine below_set ?_ GE119.out | refine below_set ?_ GE133.out) | exact HB.out))⟩)
                                · skip
                                  rintro _ w81 ⟨hS_, h0_, h1_, h2_, h3_⟩
                                  have n0_ : Aside0 (w81.heap[gb117]? = some (.cells #[.int .i64 a2_0, .int .i64 a2_1, .int .i64 a2_2] 42 (0, 0))) := ⟨h0_⟩
                                  have n1_ : Aside0 (w81.heap[gb118]? = some (.cells #[.int .i64 x119000_2, .int .i64 x119001_2, .int .i64 x119002_2] 37 (0, 0))) := ⟨h1_⟩
                                  have n2_ : Aside0 (w81.heap[gb119]? = some (.cells #[.int .i64 a2_1, .int .i64 a2_2] 64 (0, 0))) := ⟨h2_⟩
                                  have n3_ : Aside0 (Below w.heap.size w w81) := ⟨h3_⟩
                                  clear BK117
                                  clear BK118
                                  clear BK119
                                  clear HB
                                  clear h0_ h1_ h2_ h3_
                                  have BK117 := n0_
                                  have BK118 := n1_
                                  have BK119 := n2_
                                  have HB := n3_
                                  clear n0_ n1_ n2_ n3_
                                  have hHeld : w81.cell? ⟨gb119, 0, none⟩ = some (.int .i64 a2_1) ∧ w81.cell? ⟨gb119, 1, none⟩ = some (.int .i64 a2_2) := hS_
                                  refine norm_ (a' := ?_) ?_ ?_
                                  rotate_left
                                  · simp only [putAll, Act.put, List.setIfInBounds_toArray, List.set_cons_zero, List.set_cons_succ]
                                    rfl
                                  refine two_ (i := 12) (j := 25) (Ni := some 87) (Nj := some 17) #[true, true, true, true, true, true, true, true, true, true, true, true, true, false, true, false, true, true, true, true, true, false, false, false, false, false, false] #[true, true, true, true, true, true, true, true, true, true, true, true, false, false, true, false, true, true, true, true, true, false, false, false, false, true, false] rfl rfl rfl rfl (two_of HT_.out (by kernel_rfl)) (by decide) (by decide) (fun K hK => ?_) (fun K hK => ?_)
                                  · skip
                                    refine goes_ Try.func32 (by kernel_rfl) rfl #[.agg #[.int .i64 a2_1, .int .i64 a2_2]] (by rfl) rfl rfl (by (try simp only [List.map_toArray, List.map_cons, List.map_nil]); first | done | rfl | (simp only [List.length_drop, List.length_take]; rfl)) ?_
                                    with_reducible refine (score_weights_product.calls a2_1 a2_2 t131 _ A74.out).mono ?_
                                    rintro e w82 ⟨rfl, hb⟩
                                    refine ⟨_, rfl, ?_⟩
                                    have n0_ := Aside0.mk (blk_below (g := gb117) (o := .cells #[.int .i64 a2_0, .int .i64 a2_1, .int .i64 a2_2] 42 (0, 0)) (by (with_reducible repeat (first | refine blk_drewN ?_ _ | refine blk_drew ?_ | refine blk_alloc ?_ _)); exact BK117.out) hb)
                                    have n1_ := Aside0.mk (blk_below (g := gb118) (o := .cells #[.int .i64 x119000_2, .int .i64 x119001_2, .int .i64 x119002_2] 37 (0, 0)) (by (with_reducible repeat (first | refine blk_drewN ?_ _ | refine blk_drew ?_ | refine blk_alloc ?_ _)); exact BK118.out) hb)
                                    have n2_ := Aside0.mk (blk_below (g := gb119) (o := .cells #[.int .i64 a2_1, .int .i64 a2_2] 64 (0, 0)) (by (with_reducible repeat (first | refine blk_drewN ?_ _ | refine blk_drew ?_ | refine blk_alloc ?_ _)); exact BK119.out) hb)
                                    have n3_ := Aside0.mk (below_step (by repeat (first | (with_reducible first | exact HB.out | apply below_alloc | apply pw_below_drewN | apply below_drew1 | refine below_set ?_ GE117.out | refine below_set ?_ GE118.out | refine below_set ?_ GE119.out) | exact HB.out)) hb)
                                    clear BK117
                                    clear BK118
                                    clear BK119
                                    clear HB
                                    have BK117 := n0_
                                    have BK118 := n1_
                                    have BK119 := n2_
                                    have HB := n3_
                                    clear n0_ n1_ n2_ n3_
                                    (try clear hb)
                                    (try clear hb2)
                                    (try clear hk)
                                    (try clear hi)
                                    refine hK.out _ _ ⟨(blk_cell BK119.out 0).trans rfl, (blk_cell BK119.out 1).trans rfl⟩ (fun hHeld => ?_)
                                    clear hK K
                                    refine norm_ (a' := ?_) ?_ ?_
                                    rotate_left
                                    · show Act.put _ (some 87) _ = _
                                      simp only [Act.put, List.setIfInBounds_toArray, List.set_cons_zero, List.set_cons_succ, i64_w, i32_w]
                                      rfl
                                    refine pure_ (i := 13) (N := some 88) (v := ?_) (a' := ?_) #[true, true, true, true, true, true, true, true, true, true, true, true, true, true, true, false, true, true, true, true, true, false, false, false, false, false, false] rfl rfl (any_of HT_.out (by kernel_rfl)) (fun _ _ _ h => h) (Or.inl ⟨by rfl, ?_⟩) ?_ ?_
                                    rotate_left
                                    · intro w'
                                      go_simp
                                      with_reducible rfl
                                    rotate_left
                                    · simp only [Act.put, List.setIfInBounds_toArray, List.set_cons_zero, List.set_cons_succ, i64_w, i32_w]
                                      rfl
                                    exact norm_ (by first | (simp only [putAll, Act.put, List.setIfInBounds_toArray, List.set_cons_zero, List.set_cons_succ]; done) | (simp only [putAll, Act.put, List.setIfInBounds_toArray, List.set_cons_zero, List.set_cons_succ]; rfl)) (hJ1_7_12 () _ ⟨hHeld, (by (with_reducible repeat (first | refine blk_drewN ?_ _ | refine blk_drew ?_ | refine blk_alloc ?_ _)); exact BK117.out), (by (with_reducible repeat (first | refine blk_drewN ?_ _ | refine blk_drew ?_ | refine blk_alloc ?_ _)); exact BK118.out), (by (with_reducible repeat (first | refine blk_drewN ?_ _ | refine blk_drew ?_ | refine blk_alloc ?_ _)); exact BK119.out), (by repeat (first | (with_reducible first | exact HB.out | apply below_alloc | apply pw_below_drewN | apply below_drew1 | refine below_set ?_ GE117.out | refine below_set ?_ GE118.out | refine below_set ?_ GE119.out) | exact HB.out))⟩)
                                  · skip
                                    refine box_step ?hg (N := 17) ?hd (cs := #[.int .i64 0, .int .i64 0, .int .i64 0]) (t := 37) ?hr ?_; (case hd => rfl); (case hg => rfl); (case hr => first | (go_simp; done) | (go_simp; rfl))
                                    intro gb133 hg w82 hbox hb
                                    have n0_ := Aside0.mk (blk_below (g := gb117) (o := .cells #[.int .i64 a2_0, .int .i64 a2_1, .int .i64 a2_2] 42 (0, 0)) (by (with_reducible repeat (first | refine blk_drewN ?_ _ | refine blk_drew ?_ | refine blk_alloc ?_ _)); exact BK117.out) hb)
                                    have n1_ := Aside0.mk (blk_below (g := gb118) (o := .cells #[.int .i64 x119000_2, .int .i64 x119001_2, .int .i64 x119002_2] 37 (0, 0)) (by (with_reducible repeat (first | refine blk_drewN ?_ _ | refine blk_drew ?_ | refine blk_alloc ?_ _)); exact BK118.out) hb)
                                    have n2_ := Aside0.mk (blk_below (g := gb119) (o := .cells #[.int .i64 a2_1, .int .i64 a2_2] 64 (0, 0)) (by (with_reducible repeat (first | refine blk_drewN ?_ _ | refine blk_drew ?_ | refine blk_alloc ?_ _)); exact BK119.out) hb)
                                    have n3_ := Aside0.mk (below_step (by repeat (first | (with_reducible first | exact HB.out | apply below_alloc | apply pw_below_drewN | apply below_drew1 | refine below_set ?_ GE117.out | refine below_set ?_ GE118.out | refine below_set ?_ GE119.out) | exact HB.out)) hb)
                                    have n4_ := Aside0.mk (hbox)
                                    have n5_ := Aside0.mk ((by rw [hg]; exact (below_size (by repeat (first | (with_reducible first | exact HB.out | apply below_alloc | apply pw_below_drewN | apply below_drew1 | refine below_set ?_ GE117.out | refine below_set ?_ GE118.out | refine below_set ?_ GE119.out) | exact HB.out))) : w.heap.size ≤ gb133))
                                    have n6_ := Aside0.mk ((by rw [hg]; exact (below_size (by repeat (first | (with_reducible first | exact HB.out | apply below_alloc | apply pw_below_drewN | apply below_drew1 | refine below_set ?_ GE117.out | refine below_set ?_ GE118.out | refine below_set ?_ GE119.out) | exact HB.out))) : w.heap.size ≤ gb133))
                                    have n7_ := Aside0.mk ((by rw [hg]; exact Nat.ne_of_lt (blk_lt (g := gb117) (o := .cells #[.int .i64 a2_0, .int .i64 a2_1, .int .i64 a2_2] 42 (0, 0)) (by (with_reducible repeat (first | refine blk_drewN ?_ _ | refine blk_drew ?_ | refine blk_alloc ?_ _)); exact BK117.out)) : gb117 ≠ gb133))
                                    have n8_ := Aside0.mk ((by rw [hg]; exact Nat.ne_of_gt (blk_lt (g := gb117) (o := .cells #[.int .i64 a2_0, .int .i64 a2_1, .int .i64 a2_2] 42 (0, 0)) (by (with_reducible repeat (first | refine blk_drewN ?_ _ | refine blk_drew ?_ | refine blk_alloc ?_ _)); exact BK117.out)) : gb133 ≠ gb117))
                                    have n9_ := Aside0.mk ((by rw [hg]; exact Nat.ne_of_lt (blk_lt (g := gb118) (o := .cells #[.int .i64 x119000_2, .int .i64 x119001_2, .int .i64 x119002_2] 37 (0, 0)) (by (with_reducible repeat (first | refine blk_drewN ?_ _ | refine blk_drew ?_ | refine blk_alloc ?_ _)); exact BK118.out)) : gb118 ≠ gb133))
                                    have n10_ := Aside0.mk ((by rw [hg]; exact Nat.ne_of_gt (blk_lt (g := gb118) (o := .cells #[.int .i64 x119000_2, .int .i64 x119001_2, .int .i64 x119002_2] 37 (0, 0)) (by (with_reducible repeat (first | refine blk_drewN ?_ _ | refine blk_drew ?_ | refine blk_alloc ?_ _)); exact BK118.out)) : gb133 ≠ gb118))
                                    have n11_ := Aside0.mk ((by rw [hg]; exact Nat.ne_of_lt (blk_lt (g := gb119) (o := .cells #[.int .i64 a2_1, .int .i64 a2_2] 64 (0, 0)) (by (with_reducible repeat (first | refine blk_drewN ?_ _ | refine blk_drew ?_ | refine blk_alloc ?_ _)); exact BK119.out)) : gb119 ≠ gb133))
                                    have n12_ := Aside0.mk ((by rw [hg]; exact Nat.ne_of_gt (blk_lt (g := gb119) (o := .cells #[.int .i64 a2_1, .int .i64 a2_2] 64 (0, 0)) (by (with_reducible repeat (first | refine blk_drewN ?_ _ | refine blk_drew ?_ | refine blk_alloc ?_ _)); exact BK119.out)) : gb133 ≠ gb119))
                                    clear BK117
                                    clear BK118
                                    clear BK119
                                    clear HB
                                    have BK117 := n0_
                                    have BK118 := n1_
                                    have BK119 := n2_
                                    have HB := n3_
                                    have BK133 := n4_
                                    have GW133 := n5_
                                    have GE133 := n6_
                                    have NB117_133 := n7_
                                    have NB133_117 := n8_
                                    have NB118_133 := n9_
                                    have NB133_118 := n10_
                                    have NB119_133 := n11_
                                    have NB133_119 := n12_
                                    clear n0_ n1_ n2_ n3_ n4_ n5_ n6_ n7_ n8_ n9_ n10_ n11_ n12_
                                    clear hb hbox hg
                                    refine hK.out _ _ ⟨(blk_cell BK119.out 0).trans rfl, (blk_cell BK119.out 1).trans rfl⟩ (fun hHeld => ?_)
                                    clear hK K
                                    refine norm_ (a' := ?_) ?_ ?_
                                    rotate_left
                                    · show Act.put _ (some 17) _ = _
                                      simp only [Act.put, List.setIfInBounds_toArray, List.set_cons_zero, List.set_cons_succ, i64_w, i32_w]
                                      rfl
                                    exact norm_ (by first | (simp only [putAll, Act.put, List.setIfInBounds_toArray, List.set_cons_zero, List.set_cons_succ]; done) | (simp only [putAll, Act.put, List.setIfInBounds_toArray, List.set_cons_zero, List.set_cons_succ]; rfl)) (hJ1_7_25 (gb133) _ ⟨hHeld, (by (with_reducible repeat (first | refine blk_drewN ?_ _ | refine blk_drew ?_ | refine blk_alloc ?_ _)); exact BK117.out), (by (with_reducible repeat (first | refine blk_drewN ?_ _ | refine blk_drew ?_ | refine blk_alloc ?_ _)); exact BK118.out), (by (with_reducible repeat (first | refine blk_drewN ?_ _ | refine blk_drew ?_ | refine blk_alloc ?_ _)); exact BK119.out), (by (with_reducible repeat (first | refine blk_drewN ?_ _ | refine blk_drew ?_ | refine blk_alloc ?_ _)); exact BK133.out), GW133.out, GE133.out, NB117_133.out, NB133_117.out, NB118_133.out, NB133_118.out, NB119_133.out, NB133_119.out, (by repeat (first | (with_reducible first | exact HB.out | apply below_alloc | apply pw_below_drewN | apply below_drew1 | refine below_set ?_ GE117.out | refine below_set ?_ GE118.out | refine below_set ?_ GE119.out | refine below_set ?_ GE133.out) | exact HB.out))⟩)
                              · skip
                                rintro gb133 w82 ⟨hS_, h0_, h1_, h2_, h3_, h4_, h5_, h6_, h7_, h8_, h9_, h10_, h11_, h12_⟩
                                have n0_ : Aside0 (w82.heap[gb117]? = some (.cells #[.int .i64 a2_0, .int .i64 a2_1, .int .i64 a2_2] 42 (0, 0))) := ⟨h0_⟩
                                have n1_ : Aside0 (w82.heap[gb118]? = some (.cells #[.int .i64 x119000_2, .int .i64 x119001_2, .int .i64 x119002_2] 37 (0, 0))) := ⟨h1_⟩
                                have n2_ : Aside0 (w82.heap[gb119]? = some (.cells #[.int .i64 a2_1, .int .i64 a2_2] 64 (0, 0))) := ⟨h2_⟩
                                have n3_ : Aside0 (w82.heap[gb133]? = some (.cells #[.int .i64 0, .int .i64 0, .int .i64 0] 37 (0, 0))) := ⟨h3_⟩
                                have n4_ : Aside0 (w.heap.size ≤ gb133) := ⟨h4_⟩
                                have n5_ : Aside0 (w.heap.size ≤ gb133) := ⟨h5_⟩
                                have n6_ : Aside0 (gb117 ≠ gb133) := ⟨h6_⟩
                                have n7_ : Aside0 (gb133 ≠ gb117) := ⟨h7_⟩
                                have n8_ : Aside0 (gb118 ≠ gb133) := ⟨h8_⟩
                                have n9_ : Aside0 (gb133 ≠ gb118) := ⟨h9_⟩
                                have n10_ : Aside0 (gb119 ≠ gb133) := ⟨h10_⟩
                                have n11_ : Aside0 (gb133 ≠ gb119) := ⟨h11_⟩
                                have n12_ : Aside0 (Below w.heap.size w w82) := ⟨h12_⟩
                                clear BK117
                                clear BK118
                                clear BK119
                                clear HB
                                clear h0_ h1_ h2_ h3_ h4_ h5_ h6_ h7_ h8_ h9_ h10_ h11_ h12_
                                have BK117 := n0_
                                have BK118 := n1_
                                have BK119 := n2_
                                have BK133 := n3_
                                have GW133 := n4_
                                have GE133 := n5_
                                have NB117_133 := n6_
                                have NB133_117 := n7_
                                have NB118_133 := n8_
                                have NB133_118 := n9_
                                have NB119_133 := n10_
                                have NB133_119 := n11_
                                have HB := n12_
                                clear n0_ n1_ n2_ n3_ n4_ n5_ n6_ n7_ n8_ n9_ n10_ n11_ n12_
                                have hHeld : w82.cell? ⟨gb119, 0, none⟩ = some (.int .i64 a2_1) ∧ w82.cell? ⟨gb119, 1, none⟩ = some (.int .i64 a2_2) := hS_
                                refine norm_ (a' := ?_) ?_ ?_
                                rotate_left
                                · simp only [putAll, Act.put, List.setIfInBounds_toArray, List.set_cons_zero, List.set_cons_succ]
                                  rfl
                                refine one_ (i := 12) (N := some 87) #[true, true, true, true, true, true, true, true, true, true, true, true, true, false, true, false, true, true, true, true, true, false, false, false, false, true, false] rfl rfl (one_of HT_.out (by kernel_rfl)) (by decide) (fun K hK => ?_)
                                refine goes_ Try.func32 (by kernel_rfl) rfl #[.agg #[.int .i64 a2_1, .int .i64 a2_2]] (by rfl) rfl rfl (by (try simp only [List.map_toArray, List.map_cons, List.map_nil]); first | done | rfl | (simp only [List.length_drop, List.length_take]; rfl)) ?_
                                with_reducible refine (score_weights_product.calls a2_1 a2_2 t131 _ A74.out).mono ?_
                                rintro e w83 ⟨rfl, hb⟩
                                refine ⟨_, rfl, ?_⟩
                                have n0_ := Aside0.mk (blk_below (g := gb117) (o := .cells #[.int .i64 a2_0, .int .i64 a2_1, .int .i64 a2_2] 42 (0, 0)) (by (with_reducible repeat (first | refine blk_drewN ?_ _ | refine blk_drew ?_ | refine blk_alloc ?_ _)); exact BK117.out) hb)
                                have n1_ := Aside0.mk (blk_below (g := gb118) (o := .cells #[.int .i64 x119000_2, .int .i64 x119001_2, .int .i64 x119002_2] 37 (0, 0)) (by (with_reducible repeat (first | refine blk_drewN ?_ _ | refine blk_drew ?_ | refine blk_alloc ?_ _)); exact BK118.out) hb)
                                have n2_ := Aside0.mk (blk_below (g := gb119) (o := .cells #[.int .i64 a2_1, .int .i64 a2_2] 64 (0, 0)) (by (with_reducible repeat (first | refine blk_drewN ?_ _ | refine blk_drew ?_ | refine blk_alloc ?_ _)); exact BK119.out) hb)
                                have n3_ := Aside0.mk (blk_below (g := gb133) (o := .cells #[.int .i64 0, .int .i64 0, .int .i64 0] 37 (0, 0)) (by (with_reducible repeat (first | refine blk_drewN ?_ _ | refine blk_drew ?_ | refine blk_alloc ?_ _)); exact BK133.out) hb)
                                have n4_ := Aside0.mk (below_step (by repeat (first | (with_reducible first | exact HB.out | apply below_alloc | apply pw_below_drewN | apply below_drew1 | refine below_set ?_ GE117.out | refine below_set ?_ GE118.out | refine below_set ?_ GE119.out | refine below_set ?_ GE133.out) | exact HB.out)) hb)
                                clear BK117
                                clear BK118
                                clear BK119
                                clear BK133
                                clear HB
                                have BK117 := n0_
                                have BK118 := n1_
                                have BK119 := n2_
                                have BK133 := n3_
                                have HB := n4_
                                clear n0_ n1_ n2_ n3_ n4_
                                (try clear hb)
                                (try clear hb2)
                                (try clear hk)
                                (try clear hi)
                                refine hK.out _ _ ⟨(blk_cell BK119.out 0).trans rfl, (blk_cell BK119.out 1).trans rfl⟩ (fun hHeld => ?_)
                                clear hK K
                                refine norm_ (a' := ?_) ?_ ?_
                                rotate_left
                                · show Act.put _ (some 87) _ = _
                                  simp only [Act.put, List.setIfInBounds_toArray, List.set_cons_zero, List.set_cons_succ, i64_w, i32_w]
                                  rfl
                                refine pure_ (i := 13) (N := some 88) (v := ?_) (a' := ?_) #[true, true, true, true, true, true, true, true, true, true, true, true, true, true, true, false, true, true, true, true, true, false, false, false, false, true, false] rfl rfl (any_of HT_.out (by kernel_rfl)) (fun _ _ _ h => h) (Or.inl ⟨by rfl, ?_⟩) ?_ ?_
                                rotate_left
                                · intro w'
                                  go_simp
                                  with_reducible rfl
                                rotate_left
                                · simp only [Act.put, List.setIfInBounds_toArray, List.set_cons_zero, List.set_cons_succ, i64_w, i32_w]
                                  rfl
                                exact norm_ (by first | (simp only [putAll, Act.put, List.setIfInBounds_toArray, List.set_cons_zero, List.set_cons_succ]; done) | (simp only [putAll, Act.put, List.setIfInBounds_toArray, List.set_cons_zero, List.set_cons_succ]; rfl)) (hJ1_7_12_25 (gb133) _ ⟨hHeld, (by (with_reducible repeat (first | refine blk_drewN ?_ _ | refine blk_drew ?_ | refine blk_alloc ?_ _)); exact BK117.out), (by (with_reducible repeat (first | refine blk_drewN ?_ _ | refine blk_drew ?_ | refine blk_alloc ?_ _)); exact BK118.out), (by (with_reducible repeat (first | refine blk_drewN ?_ _ | refine blk_drew ?_ | refine blk_alloc ?_ _)); exact BK119.out), (by (with_reducible repeat (first | refine blk_drewN ?_ _ | refine blk_drew ?_ | refine blk_alloc ?_ _)); exact BK133.out), GW133.out, GE133.out, NB117_133.out, NB133_117.out, NB118_133.out, NB133_118.out, NB119_133.out, NB133_119.out, (by repeat (first | (with_reducible first | exact HB.out | apply below_alloc | apply pw_below_drewN | apply below_drew1 | refine below_set ?_ GE117.out | refine below_set ?_ GE118.out | refine below_set ?_ GE119.out | refine below_set ?_ GE133.out) | exact HB.out))⟩)
                            · skip
                              rintro _ w82 ⟨hS_, h0_, h1_, h2_, h3_⟩
                              have n0_ : Aside0 (w82.heap[gb117]? = some (.cells #[.int .i64 a2_0, .int .i64 a2_1, .int .i64 a2_2] 42 (0, 0))) := ⟨h0_⟩
                              have n1_ : Aside0 (w82.heap[gb118]? = some (.cells #[.int .i64 x119000_2, .int .i64 x119001_2, .int .i64 x119002_2] 37 (0, 0))) := ⟨h1_⟩
                              have n2_ : Aside0 (w82.heap[gb119]? = some (.cells #[.int .i64 a2_1, .int .i64 a2_2] 64 (0, 0))) := ⟨h2_⟩
                              have n3_ : Aside0 (Below w.heap.size w w82) := ⟨h3_⟩
                              clear BK117
                              clear BK118
                              clear BK119
                              clear HB
                              clear h0_ h1_ h2_ h3_
                              have BK117 := n0_
                              have BK118 := n1_
                              have BK119 := n2_
                              have HB := n3_
                              clear n0_ n1_ n2_ n3_
                              have hHeld : w82.cell? ⟨gb119, 0, none⟩ = some (.int .i64 a2_1) ∧ w82.cell? ⟨gb119, 1, none⟩ = some (.int .i64 a2_2) := hS_
                              refine norm_ (a' := ?_) ?_ ?_
                              rotate_left
                              · simp only [putAll, Act.put, List.setIfInBounds_toArray, List.set_cons_zero, List.set_cons_succ]
                                rfl
                              refine two_ (i := 15) (j := 25) (Ni := some 90) (Nj := some 17) #[true, true, true, true, true, true, true, true, true, true, true, true, true, true, true, true, true, true, true, true, true, false, false, false, false, false, false] #[true, true, true, true, true, true, true, true, true, true, true, true, true, true, true, false, true, true, true, true, true, false, false, false, false, true, false] rfl rfl rfl rfl (two_of HT_.out (by kernel_rfl)) (by decide) (by decide) (fun K hK => ?_) (fun K hK => ?_)
                              · skip
                                refine goes_ Try.func33 (by kernel_rfl) rfl #[.agg #[.int .i64 a2_1, .int .i64 a2_2]] (by rfl) rfl rfl (by (try simp only [List.map_toArray, List.map_cons, List.map_nil]); first | done | rfl | (simp only [List.length_drop, List.length_take]; rfl)) ?_
                                with_reducible refine (score_weights_sum.calls a2_1 a2_2 t132 _ A75.out).mono ?_
                                rintro e w83 ⟨rfl, hb⟩
                                refine ⟨_, rfl, ?_⟩
                                have n0_ := Aside0.mk (blk_below (g := gb117) (o := .cells #[.int .i64 a2_0, .int .i64 a2_1, .int .i64 a2_2] 42 (0, 0)) (by (with_reducible repeat (first | refine blk_drewN ?_ _ | refine blk_drew ?_ | refine blk_alloc ?_ _)); exact BK117.out) hb)
                                have n1_ := Aside0.mk (blk_below (g := gb118) (o := .cells #[.int .i64 x119000_2, .int .i64 x119001_2, .int .i64 x119002_2] 37 (0, 0)) (by (with_reducible repeat (first | refine blk_drewN ?_ _ | refine blk_drew ?_ | refine blk_alloc ?_ _)); exact BK118.out) hb)
                                have n2_ := Aside0.mk (blk_below (g := gb119) (o := .cells #[.int .i64 a2_1, .int .i64 a2_2] 64 (0, 0)) (by (with_reducible repeat (first | refine blk_drewN ?_ _ | refine blk_drew ?_ | refine blk_alloc ?_ _)); exact BK119.out) hb)
                                have n3_ := Aside0.mk (below_step (by repeat (first | (with_reducible first | exact HB.out | apply below_alloc | apply pw_below_drewN | apply below_drew1 | refine below_set ?_ GE117.out | refine below_set ?_ GE118.out | refine below_set ?_ GE119.out) | exact HB.out)) hb)
                                clear BK117
                                clear BK118
                                clear BK119
                                clear HB
                                have BK117 := n0_
                                have BK118 := n1_
                                have BK119 := n2_
                                have HB := n3_
                                clear n0_ n1_ n2_ n3_
                                (try clear hb)
                                (try clear hb2)
                                (try clear hk)
                                (try clear hi)
                                refine hK.out _ _ ⟨(blk_cell BK119.out 0).trans rfl, (blk_cell BK119.out 1).trans rfl⟩ (fun hHeld => ?_)
                                clear hK K
                                refine norm_ (a' := ?_) ?_ ?_
                                rotate_left
                                · show Act.put _ (some 90) _ = _
                                  simp only [Act.put, List.setIfInBounds_toArray, List.set_cons_zero, List.set_cons_succ, i64_w, i32_w]
                                  rfl
                                refine pure_ (i := 21) (N := some 96) (v := ?_) (a' := ?_) #[true, true, true, true, true, true, true, true, true, true, true, true, true, true, true, true, true, true, true, true, true, true, false, false, false, false, false] rfl rfl (any_of HT_.out (by kernel_rfl)) (fun _ _ _ h => h) (Or.inl ⟨by rfl, ?_⟩) ?_ ?_
                                rotate_left
                                · intro w'
                                  go_simp
                                  with_reducible rfl
                                rotate_left
                                · simp only [Act.put, List.setIfInBounds_toArray, List.set_cons_zero, List.set_cons_succ, i64_w, i32_w]
                                  rfl
                                refine pure_ (i := 22) (N := some 97) (v := ?_) (a' := ?_) #[true, true, true, true, true, true, true, true, true, true, true, true, true, true, true, true, true, true, true, true, true, true, true, false, false, false, false] rfl rfl (any_of HT_.out (by kernel_rfl)) (fun _ _ _ h => h) (Or.inl ⟨by rfl, ?_⟩) ?_ ?_
                                rotate_left
                                · intro w'
                                  go_simp
                                  with_reducible rfl
                                rotate_left
                                · simp only [Act.put, List.setIfInBounds_toArray, List.set_cons_zero, List.set_cons_succ, i64_w, i32_w]
                                  rfl
                                refine pure_ (i := 23) (N := some 98) (v := ?_) (a' := ?_) #[true, true, true, true, true, true, true, true, true, true, true, true, true, true, true, true, true, true, true, true, true, true, true, true, false, false, false] rfl rfl (any_of HT_.out (by kernel_rfl)) (fun _ _ _ h => h) (Or.inl ⟨by rfl, ?_⟩) ?_ ?_
                                rotate_left
                                · intro w'
                                  go_simp
                                  with_reducible rfl
                                rotate_left
                                · simp only [Act.put, List.setIfInBounds_toArray, List.set_cons_zero, List.set_cons_succ, i64_w, i32_w]
                                  rfl
                                refine pure_ (i := 24) (N := some 99) (v := ?_) (a' := ?_) #[true, true, true, true, true, true, true, true, true, true, true, true, true, true, true, true, true, true, true, true, true, true, true, true, true, false, false] rfl rfl (any_of HT_.out (by kernel_rfl)) (fun _ _ _ h => h) (Or.inl ⟨by rfl, ?_⟩) ?_ ?_
                                rotate_left
                                · intro w'
                                  go_simp
                                  with_reducible rfl
                                rotate_left
                                · simp only [Act.put, List.setIfInBounds_toArray, List.set_cons_zero, List.set_cons_succ, i64_w, i32_w]
                                  rfl
                                exact norm_ (by first | (simp only [putAll, Act.put, List.setIfInBounds_toArray, List.set_cons_zero, List.set_cons_succ]; done) | (simp only [putAll, Act.put, List.setIfInBounds_toArray, List.set_cons_zero, List.set_cons_succ]; rfl)) (hJ1_7_12_15 () _ ⟨hHeld, (by (with_reducible repeat (first | refine blk_drewN ?_ _ | refine blk_drew ?_ | refine blk_alloc ?_ _)); exact BK117.out), (by (with_reducible repeat (first | refine blk_drewN ?_ _ | refine blk_drew ?_ | refine blk_alloc ?_ _)); exact BK118.out), (by (with_reducible repeat (first | refine blk_drewN ?_ _ | refine blk_drew ?_ | refine blk_alloc ?_ _)); exact BK119.out), (by repeat (first | (with_reducible first | exact HB.out | apply below_alloc | apply pw_below_drewN | apply below_drew1 | refine below_set ?_ GE117.out | refine below_set ?_ GE118.out | refine below_set ?_ GE119.out) | exact HB.out))⟩)
                              · skip
                                refine box_step ?hg (N := 17) ?hd (cs := #[.int .i64 0, .int .i64 0, .int .i64 0]) (t := 37) ?hr ?_; (case hd => rfl); (case hg => rfl); (case hr => first | (go_simp; done) | (go_simp; rfl))
                                intro gb133 hg w83 hbox hb
                                have n0_ := Aside0.mk (blk_below (g := gb117) (o := .cells #[.int .i64 a2_0, .int .i64 a2_1, .int .i64 a2_2] 42 (0, 0)) (by (with_reducible repeat (first | refine blk_drewN ?_ _ | refine blk_drew ?_ | refine blk_alloc ?_ _)); exact BK117.out) hb)
                                have n1_ := Aside0.mk (blk_below (g := gb118) (o := .cells #[.int .i64 x119000_2, .int .i64 x119001_2, .int .i64 x119002_2] 37 (0, 0)) (by (with_reducible repeat (first | refine blk_drewN ?_ _ | refine blk_drew ?_ | refine blk_alloc ?_ _)); exact BK118.out) hb)
                                have n2_ := Aside0.mk (blk_below (g := gb119) (o := .cells #[.int .i64 a2_1, .int .i64 a2_2] 64 (0, 0)) (by (with_reducible repeat (first | refine blk_drewN ?_ _ | refine blk_drew ?_ | refine blk_alloc ?_ _)); exact BK119.out) hb)
                                have n3_ := Aside0.mk (below_step (by repeat (first | (with_reducible first | exact HB.out | apply below_alloc | apply pw_below_drewN | apply below_drew1 | refine below_set ?_ GE117.out | refine below_set ?_ GE118.out | refine below_set ?_ GE119.out) | exact HB.out)) hb)
                                have n4_ := Aside0.mk (hbox)
                                have n5_ := Aside0.mk ((by rw [hg]; exact (below_size (by repeat (first | (with_reducible first | exact HB.out | apply below_alloc | apply pw_below_drewN | apply below_drew1 | refine below_set ?_ GE117.out | refine below_set ?_ GE118.out | refine below_set ?_ GE119.out) | exact HB.out))) : w.heap.size ≤ gb133))
                                have n6_ := Aside0.mk ((by rw [hg]; exact (below_size (by repeat (first | (with_reducible first | exact HB.out | apply below_alloc | apply pw_below_drewN | apply below_drew1 | refine below_set ?_ GE117.out | refine below_set ?_ GE118.out | refine below_set ?_ GE119.out) | exact HB.out))) : w.heap.size ≤ gb133))
                                have n7_ := Aside0.mk ((by rw [hg]; exact Nat.ne_of_lt (blk_lt (g := gb117) (o := .cells #[.int .i64 a2_0, .int .i64 a2_1, .int .i64 a2_2] 42 (0, 0)) (by (with_reducible repeat (first | refine blk_drewN ?_ _ | refine blk_drew ?_ | refine blk_alloc ?_ _)); exact BK117.out)) : gb117 ≠ gb133))
                                have n8_ := Aside0.mk ((by rw [hg]; exact Nat.ne_of_gt (blk_lt (g := gb117) (o := .cells #[.int .i64 a2_0, .int .i64 a2_1, .int .i64 a2_2] 42 (0, 0)) (by (with_reducible repeat (first | refine blk_drewN ?_ _ | refine blk_drew ?_ | refine blk_alloc ?_ _)); exact BK117.out)) : gb133 ≠ gb117))
                                have n9_ := Aside0.mk ((by rw [hg]; exact Nat.ne_of_lt (blk_lt (g := gb118) (o := .cells #[.int .i64 x119000_2, .int .i64 x119001_2, .int .i64 x119002_2] 37 (0, 0)) (by (with_reducible repeat (first | refine blk_drewN ?_ _ | refine blk_drew ?_ | refine blk_alloc ?_ _)); exact BK118.out)) : gb118 ≠ gb133))
                                have n10_ := Aside0.mk ((by rw [hg]; exact Nat.ne_of_gt (blk_lt (g := gb118) (o := .cells #[.int .i64 x119000_2, .int .i64 x119001_2, .int .i64 x119002_2] 37 (0, 0)) (by (with_reducible repeat (first | refine blk_drewN ?_ _ | refine blk_drew ?_ | refine blk_alloc ?_ _)); exact BK118.out)) : gb133 ≠ gb118))
                                have n11_ := Aside0.mk ((by rw [hg]; exact Nat.ne_of_lt (blk_lt (g := gb119) (o := .cells #[.int .i64 a2_1, .int .i64 a2_2] 64 (0, 0)) (by (with_reducible repeat (first | refine blk_drewN ?_ _ | refine blk_drew ?_ | refine blk_alloc ?_ _)); exact BK119.out)) : gb119 ≠ gb133))
                                have n12_ := Aside0.mk ((by rw [hg]; exact Nat.ne_of_gt (blk_lt (g := gb119) (o := .cells #[.int .i64 a2_1, .int .i64 a2_2] 64 (0, 0)) (by (with_reducible repeat (first | refine blk_drewN ?_ _ | refine blk_drew ?_ | refine blk_alloc ?_ _)); exact BK119.out)) : gb133 ≠ gb119))
                                clear BK117
                                clear BK118
                                clear BK119
                                clear HB
                                have BK117 := n0_
                                have BK118 := n1_
                                have BK119 := n2_
                                have HB := n3_
                                have BK133 := n4_
                                have GW133 := n5_
                                have GE133 := n6_
                                have NB117_133 := n7_
                                have NB133_117 := n8_
                                have NB118_133 := n9_
                                have NB133_118 := n10_
                                have NB119_133 := n11_
                                have NB133_119 := n12_
                                clear n0_ n1_ n2_ n3_ n4_ n5_ n6_ n7_ n8_ n9_ n10_ n11_ n12_
                                clear hb hbox hg
                                refine hK.out _ _ ⟨(blk_cell BK119.out 0).trans rfl, (blk_cell BK119.out 1).trans rfl⟩ (fun hHeld => ?_)
                                clear hK K
                                refine norm_ (a' := ?_) ?_ ?_
                                rotate_left
                                · show Act.put _ (some 17) _ = _
                                  simp only [Act.put, List.setIfInBounds_toArray, List.set_cons_zero, List.set_cons_succ, i64_w, i32_w]
                                  rfl
                                exact norm_ (by first | (simp only [putAll, Act.put, List.setIfInBounds_toArray, List.set_cons_zero, List.set_cons_succ]; done) | (simp only [putAll, Act.put, List.setIfInBounds_toArray, List.set_cons_zero, List.set_cons_succ]; rfl)) (hJ1_7_12_25 (gb133) _ ⟨hHeld, (by (with_reducible repeat (first | refine blk_drewN ?_ _ | refine blk_drew ?_ | refine blk_alloc ?_ _)); exact BK117.out), (by (with_reducible repeat (first | refine blk_drewN ?_ _ | refine blk_drew ?_ | refine blk_alloc ?_ _)); exact BK118.out), (by (with_reducible repeat (first | refine blk_drewN ?_ _ | refine blk_drew ?_ | refine blk_alloc ?_ _)); exact BK119.out), (by (with_reducible repeat (first | refine blk_drewN ?_ _ | refine blk_drew ?_ | refine blk_alloc ?_ _)); exact BK133.out), GW133.out, GE133.out, NB117_133.out, NB133_117.out, NB118_133.out, NB133_118.out, NB119_133.out, NB133_119.out, (by repeat (first | (with_reducible first | exact HB.out | apply below_alloc | apply pw_below_drewN | apply below_drew1 | refine below_set ?_ GE117.out | refine below_set ?_ GE118.out | refine below_set ?_ GE119.out | refine below_set ?_ GE133.out) | exact HB.out))⟩)
                          · skip
                            rintro gb133 w83 ⟨hS_, h0_, h1_, h2_, h3_, h4_, h5_, h6_, h7_, h8_, h9_, h10_, h11_, h12_⟩
                            have n0_ : Aside0 (w83.heap[gb117]? = some (.cells #[.int .i64 a2_0, .int .i64 a2_1, .int .i64 a2_2] 42 (0, 0))) := ⟨h0_⟩
                            have n1_ : Aside0 (w83.heap[gb118]? = some (.cells #[.int .i64 x119000_2, .int .i64 x119001_2, .int .i64 x119002_2] 37 (0, 0))) := ⟨h1_⟩
                            have n2_ : Aside0 (w83.heap[gb119]? = some (.cells #[.int .i64 a2_1, .int .i64 a2_2] 64 (0, 0))) := ⟨h2_⟩
                            have n3_ : Aside0 (w83.heap[gb133]? = some (.cells #[.int .i64 0, .int .i64 0, .int .i64 0] 37 (0, 0))) := ⟨h3_⟩
                            have n4_ : Aside0 (w.heap.size ≤ gb133) := ⟨h4_⟩
                            have n5_ : Aside0 (w.heap.size ≤ gb133) := ⟨h5_⟩
                            have n6_ : Aside0 (gb117 ≠ gb133) := ⟨h6_⟩
                            have n7_ : Aside0 (gb133 ≠ gb117) := ⟨h7_⟩
                            have n8_ : Aside0 (gb118 ≠ gb133) := ⟨h8_⟩
                            have n9_ : Aside0 (gb133 ≠ gb118) := ⟨h9_⟩
                            have n10_ : Aside0 (gb119 ≠ gb133) := ⟨h10_⟩
                            have n11_ : Aside0 (gb133 ≠ gb119) := ⟨h11_⟩
                            have n12_ : Aside0 (Below w.heap.size w w83) := ⟨h12_⟩
                            clear BK117
                            clear BK118
                            clear BK119
                            clear HB
                            clear h0_ h1_ h2_ h3_ h4_ h5_ h6_ h7_ h8_ h9_ h10_ h11_ h12_
                            have BK117 := n0_
                            have BK118 := n1_
                            have BK119 := n2_
                            have BK133 := n3_
                            have GW133 := n4_
                            have GE133 := n5_
                            have NB117_133 := n6_
                            have NB133_117 := n7_
                            have NB118_133 := n8_
                            have NB133_118 := n9_
                            have NB119_133 := n10_
                            have NB133_119 := n11_
                            have HB := n12_
                            clear n0_ n1_ n2_ n3_ n4_ n5_ n6_ n7_ n8_ n9_ n10_ n11_ n12_
                            have hHeld : w83.cell? ⟨gb119, 0, none⟩ = some (.int .i64 a2_1) ∧ w83.cell? ⟨gb119, 1, none⟩ = some (.int .i64 a2_2) := hS_
                            refine norm_ (a' := ?_) ?_ ?_
                            rotate_left
                            · simp only [putAll, Act.put, List.setIfInBounds_toArray, List.set_cons_zero, List.set_cons_succ]
                              rfl
                            refine one_ (i := 15) (N := some 90) #[true, true, true, true, true, true, true, true, true, true, true, true, true, true, true, true, true, true, true, true, true, false, false, false, false, true, false] rfl rfl (one_of HT_.out (by kernel_rfl)) (by decide) (fun K hK => ?_)
                            refine goes_ Try.func33 (by kernel_rfl) rfl #[.agg #[.int .i64 a2_1, .int .i64 a2_2]] (by rfl) rfl rfl (by (try simp only [List.map_toArray, List.map_cons, List.map_nil]); first | done | rfl | (simp only [List.length_drop, List.length_take]; rfl)) ?_
                            with_reducible refine (score_weights_sum.calls a2_1 a2_2 t132 _ A75.out).mono ?_
                            rintro e w84 ⟨rfl, hb⟩
                            refine ⟨_, rfl, ?_⟩
                            have n0_ := Aside0.mk (blk_below (g := gb117) (o := .cells #[.int .i64 a2_0, .int .i64 a2_1, .int .i64 a2_2] 42 (0, 0)) (by (with_reducible repeat (first | refine blk_drewN ?_ _ | refine blk_drew ?_ | refine blk_alloc ?_ _)); exact BK117.out) hb)
                            have n1_ := Aside0.mk (blk_below (g := gb118) (o := .cells #[.int .i64 x119000_2, .int .i64 x119001_2, .int .i64 x119002_2] 37 (0, 0)) (by (with_reducible repeat (first | refine blk_drewN ?_ _ | refine blk_drew ?_ | refine blk_alloc ?_ _)); exact BK118.out) hb)
                            have n2_ := Aside0.mk (blk_below (g := gb119) (o := .cells #[.int .i64 a2_1, .int .i64 a2_2] 64 (0, 0)) (by (with_reducible repeat (first | refine blk_drewN ?_ _ | refine blk_drew ?_ | refine blk_alloc ?_ _)); exact BK119.out) hb)
                            have n3_ := Aside0.mk (blk_below (g := gb133) (o := .cells #[.int .i64 0, .int .i64 0, .int .i64 0] 37 (0, 0)) (by (with_reducible repeat (first | refine blk_drewN ?_ _ | refine blk_drew ?_ | refine blk_alloc ?_ _)); exact BK133.out) hb)
                            have n4_ := Aside0.mk (below_step (by repeat (first | (with_reducible first | exact HB.out | apply below_alloc | apply pw_below_drewN | apply below_drew1 | refine below_set ?_ GE117.out | refine below_set ?_ GE118.out | refine below_set ?_ GE119.out | refine below_set ?_ GE133.out) | exact HB.out)) hb)
                            clear BK117
                            clear BK118
                            clear BK119
                            clear BK133
                            clear HB
                            have BK117 := n0_
                            have BK118 := n1_
                            have BK119 := n2_
                            have BK133 := n3_
                            have HB := n4_
                            clear n0_ n1_ n2_ n3_ n4_
                            (try clear hb)
                            (try clear hb2)
                            (try clear hk)
                            (try clear hi)
                            refine hK.out _ _ ⟨(blk_cell BK119.out 0).trans rfl, (blk_cell BK119.out 1).trans rfl⟩ (fun hHeld => ?_)
                            clear hK K
                            refine norm_ (a' := ?_) ?_ ?_
                            rotate_left
                            · show Act.put _ (some 90) _ = _
                              simp only [Act.put, List.setIfInBounds_toArray, List.set_cons_zero, List.set_cons_succ, i64_w, i32_w]
                              rfl
                            refine pure_ (i := 21) (N := some 96) (v := ?_) (a' := ?_) #[true, true, true, true, true, true, true, true, true, true, true, true, true, true, true, true, true, true, true, true, true, true, false, false, false, true, false] rfl rfl (any_of HT_.out (by kernel_rfl)) (fun _ _ _ h => h) (Or.inl ⟨by rfl, ?_⟩) ?_ ?_
                            rotate_left
                            · intro w'
                              go_simp
                              with_reducible rfl
                            rotate_left
                            · simp only [Act.put, List.setIfInBounds_toArray, List.set_cons_zero, List.set_cons_succ, i64_w, i32_w]
                              rfl
                            refine pure_ (i := 22) (N := some 97) (v := ?_) (a' := ?_) #[true, true, true, true, true, true, true, true, true, true, true, true, true, true, true, true, true, true, true, true, true, true, true, false, false, true, false] rfl rfl (any_of HT_.out (by kernel_rfl)) (fun _ _ _ h => h) (Or.inl ⟨by rfl, ?_⟩) ?_ ?_
                            rotate_left
                            · intro w'
                              go_simp
                              with_reducible rfl
                            rotate_left
                            · simp only [Act.put, List.setIfInBounds_toArray, List.set_cons_zero, List.set_cons_succ, i64_w, i32_w]
                              rfl
                            refine pure_ (i := 23) (N := some 98) (v := ?_) (a' := ?_) #[true, true, true, true, true, true, true, true, true, true, true, true, true, true, true, true, true, true, true, true, true, true, true, true, false, true, false] rfl rfl (any_of HT_.out (by kernel_rfl)) (fun _ _ _ h => h) (Or.inl ⟨by rfl, ?_⟩) ?_ ?_
                            rotate_left
                            · intro w'
                              go_simp
                              with_reducible rfl
                            rotate_left
                            · simp only [Act.put, List.setIfInBounds_toArray, List.set_cons_zero, List.set_cons_succ, i64_w, i32_w]
                              rfl
                            refine pure_ (i := 24) (N := some 99) (v := ?_) (a' := ?_) #[true, true, true, true, true, true, true, true, true, true, true, true, true, true, true, true, true, true, true, true, true, true, true, true, true, true, false] rfl rfl (any_of HT_.out (by kernel_rfl)) (fun _ _ _ h => h) (Or.inl ⟨by rfl, ?_⟩) ?_ ?_
                            rotate_left
                            · intro w'
                              go_simp
                              with_reducible rfl
                            rotate_left
                            · simp only [Act.put, List.setIfInBounds_toArray, List.set_cons_zero, List.set_cons_succ, i64_w, i32_w]
                              rfl
                            exact norm_ (by first | (simp only [putAll, Act.put, List.setIfInBounds_toArray, List.set_cons_zero, List.set_cons_succ]; done) | (simp only [putAll, Act.put, List.setIfInBounds_toArray, List.set_cons_zero, List.set_cons_succ]; rfl)) (hJ1_7_12_15_25 (gb133) _ ⟨hHeld, (by (with_reducible repeat (first | refine blk_drewN ?_ _ | refine blk_drew ?_ | refine blk_alloc ?_ _)); exact BK117.out), (by (with_reducible repeat (first | refine blk_drewN ?_ _ | refine blk_drew ?_ | refine blk_alloc ?_ _)); exact BK118.out), (by (with_reducible repeat (first | refine blk_drewN ?_ _ | refine blk_drew ?_ | refine blk_alloc ?_ _)); exact BK119.out), (by (with_reducible repeat (first | refine blk_drewN ?_ _ | refine blk_drew ?_ | refine blk_alloc ?_ _)); exact BK133.out), GW133.out, GE133.out, NB117_133.out, NB133_117.out, NB118_133.out, NB133_118.out, NB119_133.out, NB133_119.out, (by repeat (first | (with_reducible first | exact HB.out | apply below_alloc | apply pw_below_drewN | apply below_drew1 | refine below_set ?_ GE117.out | refine below_set ?_ GE118.out | refine below_set ?_ GE119.out | refine below_set ?_ GE133.out) | exact HB.out))⟩)
                        · skip
                          rintro _ w83 ⟨hS_, h0_, h1_, h2_, h3_⟩
                          have n0_ : Aside0 (w83.heap[gb117]? = some (.cells #[.int .i64 a2_0, .int .i64 a2_1, .int .i64 a2_2] 42 (0, 0))) := ⟨h0_⟩
                          have n1_ : Aside0 (w83.heap[gb118]? = some (.cells #[.int .i64 x119000_2, .int .i64 x119001_2, .int .i64 x119002_2] 37 (0, 0))) := ⟨h1_⟩
                          have n2_ : Aside0 (w83.heap[gb119]? = some (.cells #[.int .i64 a2_1, .int .i64 a2_2] 64 (0, 0))) := ⟨h2_⟩
                          have n3_ : Aside0 (Below w.heap.size w w83) := ⟨h3_⟩
                          clear BK117
                          clear BK118
                          clear BK119
                          clear HB
                          clear h0_ h1_ h2_ h3_
                          have BK117 := n0_
                          have BK118 := n1_
                          have BK119 := n2_
                          have HB := n3_
                          clear n0_ n1_ n2_ n3_
                          have hHeld : w83.cell? ⟨gb119, 0, none⟩ = some (.int .i64 a2_1) ∧ w83.cell? ⟨gb119, 1, none⟩ = some (.int .i64 a2_2) := hS_
                          refine norm_ (a' := ?_) ?_ ?_
                          rotate_left
                          · simp only [putAll, Act.put, List.setIfInBounds_toArray, List.set_cons_zero, List.set_cons_succ]
                            rfl
                          refine one_ (i := 25) (N := some 17) #[true, true, true, true, true, true, true, true, true, true, true, true, true, true, true, true, true, true, true, true, true, true, true, true, true, true, false] rfl rfl (one_of HT_.out (by kernel_rfl)) (by decide) (fun K hK => ?_)
                          refine box_step ?hg (N := 17) ?hd (cs := #[.int .i64 0, .int .i64 0, .int .i64 0]) (t := 37) ?hr ?_; (case hd => rfl); (case hg => rfl); (case hr => first | (go_simp; done) | (go_simp; rfl))
                          intro gb133 hg w84 hbox hb
                          have n0_ := Aside0.mk (blk_below (g := gb117) (o := .cells #[.int .i64 a2_0, .int .i64 a2_1, .int .i64 a2_2] 42 (0, 0)) (by (with_reducible repeat (first | refine blk_drewN ?_ _ | refine blk_drew ?_ | refine blk_alloc ?_ _)); exact BK117.out) hb)
                          have n1_ := Aside0.mk (blk_below (g := gb118) (o := .cells #[.int .i64 x119000_2, .int .i64 x119001_2, .int .i64 x119002_2] 37 (0, 0)) (by (with_reducible repeat (first | refine blk_drewN ?_ _ | refine blk_drew ?_ | refine blk_alloc ?_ _)); exact BK118.out) hb)
                          have n2_ := Aside0.mk (blk_below (g := gb119) (o := .cells #[.int .i64 a2_1, .int .i64 a2_2] 64 (0, 0)) (by (with_reducible repeat (first | refine blk_drewN ?_ _ | refine blk_drew ?_ | refine blk_alloc ?_ _)); exact BK119.out) hb)
                          have n3_ := Aside0.mk (below_step (by repeat (first | (with_reducible first | exact HB.out | apply below_alloc | apply pw_below_drewN | apply below_drew1 | refine below_set ?_ GE117.out | refine below_set ?_ GE118.out | refine below_set ?_ GE119.out) | exact HB.out)) hb)
                          have n4_ := Aside0.mk (hbox)
                          have n5_ := Aside0.mk ((by rw [hg]; exact (below_size (by repeat (first | (with_reducible first | exact HB.out | apply below_alloc | apply pw_below_drewN | apply below_drew1 | refine below_set ?_ GE117.out | refine below_set ?_ GE118.out | refine below_set ?_ GE119.out) | exact HB.out))) : w.heap.size ≤ gb133))
                          have n6_ := Aside0.mk ((by rw [hg]; exact (below_size (by repeat (first | (with_reducible first | exact HB.out | apply below_alloc | apply pw_below_drewN | apply below_drew1 | refine below_set ?_ GE117.out | refine below_set ?_ GE118.out | refine below_set ?_ GE119.out) | exact HB.out))) : w.heap.size ≤ gb133))
                          have n7_ := Aside0.mk ((by rw [hg]; exact Nat.ne_of_lt (blk_lt (g := gb117) (o := .cells #[.int .i64 a2_0, .int .i64 a2_1, .int .i64 a2_2] 42 (0, 0)) (by (with_reducible repeat (first | refine blk_drewN ?_ _ | refine blk_drew ?_ | refine blk_alloc ?_ _)); exact BK117.out)) : gb117 ≠ gb133))
                          have n8_ := Aside0.mk ((by rw [hg]; exact Nat.ne_of_gt (blk_lt (g := gb117) (o := .cells #[.int .i64 a2_0, .int .i64 a2_1, .int .i64 a2_2] 42 (0, 0)) (by (with_reducible repeat (first | refine blk_drewN ?_ _ | refine blk_drew ?_ | refine blk_alloc ?_ _)); exact BK117.out)) : gb133 ≠ gb117))
                          have n9_ := Aside0.mk ((by rw [hg]; exact Nat.ne_of_lt (blk_lt (g := gb118) (o := .cells #[.int .i64 x119000_2, .int .i64 x119001_2, .int .i64 x119002_2] 37 (0, 0)) (by (with_reducible repeat (first | refine blk_drewN ?_ _ | refine blk_drew ?_ | refine blk_alloc ?_ _)); exact BK118.out)) : gb118 ≠ gb133))
                          have n10_ := Aside0.mk ((by rw [hg]; exact Nat.ne_of_gt (blk_lt (g := gb118) (o := .cells #[.int .i64 x119000_2, .int .i64 x119001_2, .int .i64 x119002_2] 37 (0, 0)) (by (with_reducible repeat (first | refine blk_drewN ?_ _ | refine blk_drew ?_ | refine blk_alloc ?_ _)); exact BK118.out)) : gb133 ≠ gb118))
                          have n11_ := Aside0.mk ((by rw [hg]; exact Nat.ne_of_lt (blk_lt (g := gb119) (o := .cells #[.int .i64 a2_1, .int .i64 a2_2] 64 (0, 0)) (by (with_reducible repeat (first | refine blk_drewN ?_ _ | refine blk_drew ?_ | refine blk_alloc ?_ _)); exact BK119.out)) : gb119 ≠ gb133))
                          have n12_ := Aside0.mk ((by rw [hg]; exact Nat.ne_of_gt (blk_lt (g := gb119) (o := .cells #[.int .i64 a2_1, .int .i64 a2_2] 64 (0, 0)) (by (with_reducible repeat (first | refine blk_drewN ?_ _ | refine blk_drew ?_ | refine blk_alloc ?_ _)); exact BK119.out)) : gb133 ≠ gb119))
                          clear BK117
                          clear BK118
                          clear BK119
                          clear HB
                          have BK117 := n0_
                          have BK118 := n1_
                          have BK119 := n2_
                          have HB := n3_
                          have BK133 := n4_
                          have GW133 := n5_
                          have GE133 := n6_
                          have NB117_133 := n7_
                          have NB133_117 := n8_
                          have NB118_133 := n9_
                          have NB133_118 := n10_
                          have NB119_133 := n11_
                          have NB133_119 := n12_
                          clear n0_ n1_ n2_ n3_ n4_ n5_ n6_ n7_ n8_ n9_ n10_ n11_ n12_
                          clear hb hbox hg
                          refine hK.out _ _ ⟨(blk_cell BK119.out 0).trans rfl, (blk_cell BK119.out 1).trans rfl⟩ (fun hHeld => ?_)
                          clear hK K
                          refine norm_ (a' := ?_) ?_ ?_
                          rotate_left
                          · show Act.put _ (some 17) _ = _
                            simp only [Act.put, List.setIfInBounds_toArray, List.set_cons_zero, List.set_cons_succ, i64_w, i32_w]
                            rfl
                          exact norm_ (by first | (simp only [putAll, Act.put, List.setIfInBounds_toArray, List.set_cons_zero, List.set_cons_succ]; done) | (simp only [putAll, Act.put, List.setIfInBounds_toArray, List.set_cons_zero, List.set_cons_succ]; rfl)) (hJ1_7_12_15_25 (gb133) _ ⟨hHeld, (by (with_reducible repeat (first | refine blk_drewN ?_ _ | refine blk_drew ?_ | refine blk_alloc ?_ _)); exact BK117.out), (by (with_reducible repeat (first | refine blk_drewN ?_ _ | refine blk_drew ?_ | refine blk_alloc ?_ _)); exact BK118.out), (by (with_reducible repeat (first | refine blk_drewN ?_ _ | refine blk_drew ?_ | refine blk_alloc ?_ _)); exact BK119.out), (by (with_reducible repeat (first | refine blk_drewN ?_ _ | refine blk_drew ?_ | refine blk_alloc ?_ _)); exact BK133.out), GW133.out, GE133.out, NB117_133.out, NB133_117.out, NB118_133.out, NB133_118.out, NB119_133.out, NB133_119.out, (by repeat (first | (with_reducible first | exact HB.out | apply below_alloc | apply pw_below_drewN | apply below_drew1 | refine below_set ?_ GE117.out | refine below_set ?_ GE118.out | refine below_set ?_ GE119.out | refine below_set ?_ GE133.out) | exact HB.out))⟩)
                      rintro gb133 w84 ⟨hS_, h0_, h1_, h2_, h3_, h4_, h5_, h6_, h7_, h8_, h9_, h10_, h11_, h12_⟩
                      have n0_ : Aside0 (w84.heap[gb117]? = some (.cells #[.int .i64 a2_0, .int .i64 a2_1, .int .i64 a2_2] 42 (0, 0))) := ⟨h0_⟩
                      have n1_ : Aside0 (w84.heap[gb118]? = some (.cells #[.int .i64 x119000_2, .int .i64 x119001_2, .int .i64 x119002_2] 37 (0, 0))) := ⟨h1_⟩
                      have n2_ : Aside0 (w84.heap[gb119]? = some (.cells #[.int .i64 a2_1, .int .i64 a2_2] 64 (0, 0))) := ⟨h2_⟩
                      have n3_ : Aside0 (w84.heap[gb133]? = some (.cells #[.int .i64 0, .int .i64 0, .int .i64 0] 37 (0, 0))) := ⟨h3_⟩
                      have n4_ : Aside0 (w.heap.size ≤ gb133) := ⟨h4_⟩
                      have n5_ : Aside0 (w.heap.size ≤ gb133) := ⟨h5_⟩
                      have n6_ : Aside0 (gb117 ≠ gb133) := ⟨h6_⟩
                      have n7_ : Aside0 (gb133 ≠ gb117) := ⟨h7_⟩
                      have n8_ : Aside0 (gb118 ≠ gb133) := ⟨h8_⟩
                      have n9_ : Aside0 (gb133 ≠ gb118) := ⟨h9_⟩
                      have n10_ : Aside0 (gb119 ≠ gb133) := ⟨h10_⟩
                      have n11_ : Aside0 (gb133 ≠ gb119) := ⟨h11_⟩
                      have n12_ : Aside0 (Below w.heap.size w w84) := ⟨h12_⟩
                      clear BK117
                      clear BK118
                      clear BK119
                      clear HB
                      clear h0_ h1_ h2_ h3_ h4_ h5_ h6_ h7_ h8_ h9_ h10_ h11_ h12_
                      have BK117 := n0_
                      have BK118 := n1_
                      have BK119 := n2_
                      have BK133 := n3_
                      have GW133 := n4_
                      have GE133 := n5_
                      have NB117_133 := n6_
                      have NB133_117 := n7_
                      have NB118_133 := n8_
                      have NB133_118 := n9_
                      have NB119_133 := n10_
                      have NB133_119 := n11_
                      have HB := n12_
                      clear n0_ n1_ n2_ n3_ n4_ n5_ n6_ n7_ n8_ n9_ n10_ n11_ n12_
                      have hHeld : w84.cell? ⟨gb119, 0, none⟩ = some (.int .i64 a2_1) ∧ w84.cell? ⟨gb119, 1, none⟩ = some (.int .i64 a2_2) := hS_
                      refine norm_ (a' := ?_) ?_ ?_
                      rotate_left
                      · simp only [putAll, Act.put, List.setIfInBounds_toArray, List.set_cons_zero, List.set_cons_succ]
                        rfl
                      refine one_ (i := 26) (N := none) #[true, true, true, true, true, true, true, true, true, true, true, true, true, true, true, true, true, true, true, true, true, true, true, true, true, true, true] rfl rfl (one_of HT_.out (by kernel_rfl)) (by decide) (fun K hK => ?_)
                      have hs85 : w84.cell? ⟨gb133, 0, none⟩ = some (.int .i64 0) := (blk_cell BK133.out 0).trans rfl
                      have hfs85 := blk_frozen BK133.out 0
                      have hns85_0 := NB117_133.out
                      have hns85_1 := NB118_133.out
                      have hns85_2 := NB119_133.out
                      have hms85_0 := NB133_117.out
                      have hms85_1 := NB133_118.out
                      have hms85_2 := NB133_119.out
                      have hs86 : w84.cell? ⟨gb133, 1, none⟩ = some (.int .i64 0) := (blk_cell BK133.out 1).trans rfl
                      have hfs86 := blk_frozen BK133.out 1
                      have hns86_0 := NB117_133.out
                      have hns86_1 := NB118_133.out
                      have hns86_2 := NB119_133.out
                      have hms86_0 := NB133_117.out
                      have hms86_1 := NB133_118.out
                      have hms86_2 := NB133_119.out
                      have hs87 : w84.cell? ⟨gb133, 2, none⟩ = some (.int .i64 0) := (blk_cell BK133.out 2).trans rfl
                      have hfs87 := blk_frozen BK133.out 2
                      have hns87_0 := NB117_133.out
                      have hns87_1 := NB118_133.out
                      have hns87_2 := NB119_133.out
                      have hms87_0 := NB133_117.out
                      have hms87_1 := NB133_118.out
                      have hms87_2 := NB133_119.out
                      refine skip_ (w1 := ?_) (by rfl) rfl ?_ ?_
                      rotate_left
                      · go_simp
                        rfl
                      refine hK.out _ _ ⟨((cell_far (p := ⟨gb133, _, none⟩) NB119_133.out _).trans (((cell_far (p := ⟨gb133, _, none⟩) NB119_133.out _).trans (((cell_far (p := ⟨gb133, _, none⟩) NB119_133.out _).trans (hHeld.1)))))), ((cell_far (p := ⟨gb133, _, none⟩) NB119_133.out _).trans (((cell_far (p := ⟨gb133, _, none⟩) NB119_133.out _).trans (((cell_far (p := ⟨gb133, _, none⟩) NB119_133.out _).trans (hHeld.2))))))⟩ (fun hHeld => ?_)
                      clear hK K
                      refine done_ (done_of HT_.out (by kernel_rfl)) ?_
                      go_upto_region 14 with (fail)
                      go_cut [18] (fun v18 wc => ∃ (kq : Nat) (x18_76 : Int), v18 = .int .i64 x18_76 ∧ Aside0 (score_Of.j3 kq l0 a1 x15_65 x16_65 x18_76 a2_1 a2_2 (wrap64 (t129 * (wrap64 (x16_65 - x15_65)))) (wrap64 (t130 * a3)) (wrap64 (a3 * (wrap64 ((wrap64 (2 * t131)) + (wrap64 (t132 * (ji76))))))) = some (r1, r2, r3, r4)) ∧ Aside0 (kq ≤ kj65) ∧ Aside0 (wc.heap[gb117]? = some (.cells #[.int .i64 a2_0, .int .i64 a2_1, .int .i64 a2_2] 42 (0, 0))) ∧ Aside0 (wc.heap[gb118]? = some (.cells #[.int .i64 x119000_2, .int .i64 x119001_2, .int .i64 x119002_2] 37 (0, 0))) ∧ Aside0 (wc.heap[gb119]? = some (.cells #[.int .i64 a2_1, .int .i64 a2_2] 64 (0, 0))) ∧ Aside0 (wc.heap[gb133]? = some (.cells #[.int .i64 (wrap64 (t129 * (wrap64 (x16_65 - x15_65)))), .int .i64 (wrap64 (t130 * a3)), .int .i64 (wrap64 (a3 * (wrap64 ((wrap64 (2 * t131)) + (wrap64 (t132 * (ji76)))))))] 37 (0, 0))) ∧ Aside0 (Below w.heap.size w wc))
                      case first =>
                        have H := HC77.out
                        clear HC77
                        by_cases c88 : 0 ≤ a1
                        · rw [if_pos c88] at H
                          have c88b0 : decide (0 ≤ a1) = true := decide_eq_true c88
                          clear c88
                          (first | rw [c88b0] | (simp only [i64_w, i32_w]; rw [c88b0]) | skip)
                          by_cases c89 : a1 < (l0.length : Int)
                          · rw [if_pos c89] at H
                            have c89b0 : decide (a1 < (l0.length : Int)) = true := decide_eq_true c89
                            clear c89
                            have H' := Aside0.mk H
                            clear H
                            have p134 : 0 ≤ (a1 : Int) := of_decide_eq_true (by first | (with_reducible assumption) | assumption)
                            have q134 : a1 < (l0.length : Int) := of_decide_eq_true (by first | (with_reducible assumption) | assumption)
                            obtain ⟨ad134, e134, hx134_0, hx134_1, hx134_2, hx134_3, hx134_4, hx134_5, hx134_6, hx134_7, hx134_8, hx134_9⟩ := at_T34 HR0.out a1 p134 q134
                            cases e134
                            have hn134_0 : ad134.block ≠ gb133 := Nat.ne_of_lt (Nat.lt_of_lt_of_le (by have := World.block_lt_of_cell? _ _ hx134_0; first | rwa [add_block] at this | exact this) GW133.out)
                            have hn134_1 : ad134.block ≠ gb133 := Nat.ne_of_lt (Nat.lt_of_lt_of_le (by have := World.block_lt_of_cell? _ _ hx134_0; first | rwa [add_block] at this | exact this) GW133.out)
                            have hn134_2 : ad134.block ≠ gb133 := Nat.ne_of_lt (Nat.lt_of_lt_of_le (by have := World.block_lt_of_cell? _ _ hx134_0; first | rwa [add_block] at this | exact this) GW133.out)
                            replace hx134_0 := (HB.out.cell (World.block_lt_of_cell? w _ hx134_0)).trans hx134_0
                            replace hx134_1 := (HB.out.cell (World.block_lt_of_cell? w _ hx134_1)).trans hx134_1
                            replace hx134_2 := (HB.out.cell (World.block_lt_of_cell? w _ hx134_2)).trans hx134_2
                            replace hx134_3 := (HB.out.cell (World.block_lt_of_cell? w _ hx134_3)).trans hx134_3
                            replace hx134_4 := (HB.out.cell (World.block_lt_of_cell? w _ hx134_4)).trans hx134_4
                            replace hx134_5 := (HB.out.cell (World.block_lt_of_cell? w _ hx134_5)).trans hx134_5
                            replace hx134_6 := (HB.out.cell (World.block_lt_of_cell? w _ hx134_6)).trans hx134_6
                            replace hx134_7 := (HB.out.cell (World.block_lt_of_cell? w _ hx134_7)).trans hx134_7
                            replace hx134_8 := (HB.out.cell (World.block_lt_of_cell? w _ hx134_8)).trans hx134_8
                            replace hx134_9 := (HB.out.cell (World.block_lt_of_cell? w _ hx134_9)).trans hx134_9
                            replace hx134_0 := (cell_far (p := ⟨gb133, 0, none⟩) (by first | (rw [add_block]; exact hn134_0) | (show (Addr.add _ _).block ≠ _; rw [add_block]; exact hn134_0) | exact hn134_0) (.int .i64 (wrap64 (t129 * (wrap64 (x16_65 - x15_65)))))).trans hx134_0
                            replace hx134_1 := (cell_far (p := ⟨gb133, 0, none⟩) (by first | (rw [add_block]; exact hn134_0) | (show (Addr.add _ _).block ≠ _; rw [add_block]; exact hn134_0) | exact hn134_0) (.int .i64 (wrap64 (t129 * (wrap64 (x16_65 - x15_65)))))).trans hx134_1
                            replace hx134_2 := (cell_far (p := ⟨gb133, 0, none⟩) (by first | (rw [add_block]; exact hn134_0) | (show (Addr.add _ _).block ≠ _; rw [add_block]; exact hn134_0) | exact hn134_0) (.int .i64 (wrap64 (t129 * (wrap64 (x16_65 - x15_65)))))).trans hx134_2
                            replace hx134_3 := (cell_far (p := ⟨gb133, 0, none⟩) (by first | (rw [add_block]; exact hn134_0) | (show (Addr.add _ _).block ≠ _; rw [add_block]; exact hn134_0) | exact hn134_0) (.int .i64 (wrap64 (t129 * (wrap64 (x16_65 - x15_65)))))).trans hx134_3
                            replace hx134_4 := (cell_far (p := ⟨gb133, 0, none⟩) (by first | (rw [add_block]; exact hn134_0) | (show (Addr.add _ _).block ≠ _; rw [add_block]; exact hn134_0) | exact hn134_0) (.int .i64 (wrap64 (t129 * (wrap64 (x16_65 - x15_65)))))).trans hx134_4
                            replace hx134_5 := (cell_far (p := ⟨gb133, 0, none⟩) (by first | (rw [add_block]; exact hn134_0) | (show (Addr.add _ _).block ≠ _; rw [add_block]; exact hn134_0) | exact hn134_0) (.int .i64 (wrap64 (t129 * (wrap64 (x16_65 - x15_65)))))).trans hx134_5
                            replace hx134_6 := (cell_far (p := ⟨gb133, 0, none⟩) (by first | (rw [add_block]; exact hn134_0) | (show (Addr.add _ _).block ≠ _; rw [add_block]; exact hn134_0) | exact hn134_0) (.int .i64 (wrap64 (t129 * (wrap64 (x16_65 - x15_65)))))).trans hx134_6
                            replace hx134_7 := (cell_far (p := ⟨gb133, 0, none⟩) (by first | (rw [add_block]; exact hn134_0) | (show (Addr.add _ _).block ≠ _; rw [add_block]; exact hn134_0) | exact hn134_0) (.int .i64 (wrap64 (t129 * (wrap64 (x16_65 - x15_65)))))).trans hx134_7
                            replace hx134_8 := (cell_far (p := ⟨gb133, 0, none⟩) (by first | (rw [add_block]; exact hn134_0) | (show (Addr.add _ _).block ≠ _; rw [add_block]; exact hn134_0) | exact hn134_0) (.int .i64 (wrap64 (t129 * (wrap64 (x16_65 - x15_65)))))).trans hx134_8
                            replace hx134_9 := (cell_far (p := ⟨gb133, 0, none⟩) (by first | (rw [add_block]; exact hn134_0) | (show (Addr.add _ _).block ≠ _; rw [add_block]; exact hn134_0) | exact hn134_0) (.int .i64 (wrap64 (t129 * (wrap64 (x16_65 - x15_65)))))).trans hx134_9
                            replace hx134_0 := (cell_far (p := ⟨gb133, 1, none⟩) (by first | (rw [add_block]; exact hn134_1) | (show (Addr.add _ _).block ≠ _; rw [add_block]; exact hn134_1) | exact hn134_1) (.int .i64 (wrap64 (t130 * a3)))).trans hx134_0
                            replace hx134_1 := (cell_far (p := ⟨gb133, 1, none⟩) (by first | (rw [add_block]; exact hn134_1) | (show (Addr.add _ _).block ≠ _; rw [add_block]; exact hn134_1) | exact hn134_1) (.int .i64 (wrap64 (t130 * a3)))).trans hx134_1
                            replace hx134_2 := (cell_far (p := ⟨gb133, 1, none⟩) (by first | (rw [add_block]; exact hn134_1) | (show (Addr.add _ _).block ≠ _; rw [add_block]; exact hn134_1) | exact hn134_1) (.int .i64 (wrap64 (t130 * a3)))).trans hx134_2
                            replace hx134_3 := (cell_far (p := ⟨gb133, 1, none⟩) (by first | (rw [add_block]; exact hn134_1) | (show (Addr.add _ _).block ≠ _; rw [add_block]; exact hn134_1) | exact hn134_1) (.int .i64 (wrap64 (t130 * a3)))).trans hx134_3
                            replace hx134_4 := (cell_far (p := ⟨gb133, 1, none⟩) (by first | (rw [add_block]; exact hn134_1) | (show (Addr.add _ _).block ≠ _; rw [add_block]; exact hn134_1) | exact hn134_1) (.int .i64 (wrap64 (t130 * a3)))).trans hx134_4
                            replace hx134_5 := (cell_far (p := ⟨gb133, 1, none⟩) (by first | (rw [add_block]; exact hn134_1) | (show (Addr.add _ _).block ≠ _; rw [add_block]; exact hn134_1) | exact hn134_1) (.int .i64 (wrap64 (t130 * a3)))).trans hx134_5
                            replace hx134_6 := (cell_far (p := ⟨gb133, 1, none⟩) (by first | (rw [add_block]; exact hn134_1) | (show (Addr.add _ _).block ≠ _; rw [add_block]; exact hn134_1) | exact hn134_1) (.int .i64 (wrap64 (t130 * a3)))).trans hx134_6
                            replace hx134_7 := (cell_far (p := ⟨gb133, 1, none⟩) (by first | (rw [add_block]; exact hn134_1) | (show (Addr.add _ _).block ≠ _; rw [add_block]; exact hn134_1) | exact hn134_1) (.int .i64 (wrap64 (t130 * a3)))).trans hx134_7
                            replace hx134_8 := (cell_far (p := ⟨gb133, 1, none⟩) (by first | (rw [add_block]; exact hn134_1) | (show (Addr.add _ _).block ≠ _; rw [add_block]; exact hn134_1) | exact hn134_1) (.int .i64 (wrap64 (t130 * a3)))).trans hx134_8
                            replace hx134_9 := (cell_far (p := ⟨gb133, 1, none⟩) (by first | (rw [add_block]; exact hn134_1) | (show (Addr.add _ _).block ≠ _; rw [add_block]; exact hn134_1) | exact hn134_1) (.int .i64 (wrap64 (t130 * a3)))).trans hx134_9
                            replace hx134_0 := (cell_far (p := ⟨gb133, 2, none⟩) (by first | (rw [add_block]; exact hn134_2) | (show (Addr.add _ _).block ≠ _; rw [add_block]; exact hn134_2) | exact hn134_2) (.int .i64 (wrap64 (a3 * (wrap64 ((wrap64 (2 * t131)) + (wrap64 (t132 * (ji76))))))))).trans hx134_0
                            replace hx134_1 := (cell_far (p := ⟨gb133, 2, none⟩) (by first | (rw [add_block]; exact hn134_2) | (show (Addr.add _ _).block ≠ _; rw [add_block]; exact hn134_2) | exact hn134_2) (.int .i64 (wrap64 (a3 * (wrap64 ((wrap64 (2 * t131)) + (wrap64 (t132 * (ji76))))))))).trans hx134_1
                            replace hx134_2 := (cell_far (p := ⟨gb133, 2, none⟩) (by first | (rw [add_block]; exact hn134_2) | (show (Addr.add _ _).block ≠ _; rw [add_block]; exact hn134_2) | exact hn134_2) (.int .i64 (wrap64 (a3 * (wrap64 ((wrap64 (2 * t131)) + (wrap64 (t132 * (ji76))))))))).trans hx134_2
                            replace hx134_3 := (cell_far (p := ⟨gb133, 2, none⟩) (by first | (rw [add_block]; exact hn134_2) | (show (Addr.add _ _).block ≠ _; rw [add_block]; exact hn134_2) | exact hn134_2) (.int .i64 (wrap64 (a3 * (wrap64 ((wrap64 (2 * t131)) + (wrap64 (t132 * (ji76))))))))).trans hx134_3
                            replace hx134_4 := (cell_far (p := ⟨gb133, 2, none⟩) (by first | (rw [add_block]; exact hn134_2) | (show (Addr.add _ _).block ≠ _; rw [add_block]; exact hn134_2) | exact hn134_2) (.int .i64 (wrap64 (a3 * (wrap64 ((wrap64 (2 * t131)) + (wrap64 (t132 * (ji76))))))))).trans hx134_4
                            replace hx134_5 := (cell_far (p := ⟨gb133, 2, none⟩) (by first | (rw [add_block]; exact hn134_2) | (show (Addr.add _ _).block ≠ _; rw [add_block]; exact hn134_2) | exact hn134_2) (.int .i64 (wrap64 (a3 * (wrap64 ((wrap64 (2 * t131)) + (wrap64 (t132 * (ji76))))))))).trans hx134_5
                            replace hx134_6 := (cell_far (p := ⟨gb133, 2, none⟩) (by first | (rw [add_block]; exact hn134_2) | (show (Addr.add _ _).block ≠ _; rw [add_block]; exact hn134_2) | exact hn134_2) (.int .i64 (wrap64 (a3 * (wrap64 ((wrap64 (2 * t131)) + (wrap64 (t132 * (ji76))))))))).trans hx134_6
                            replace hx134_7 := (cell_far (p := ⟨gb133, 2, none⟩) (by first | (rw [add_block]; exact hn134_2) | (show (Addr.add _ _).block ≠ _; rw [add_block]; exact hn134_2) | exact hn134_2) (.int .i64 (wrap64 (a3 * (wrap64 ((wrap64 (2 * t131)) + (wrap64 (t132 * (ji76))))))))).trans hx134_7
                            replace hx134_8 := (cell_far (p := ⟨gb133, 2, none⟩) (by first | (rw [add_block]; exact hn134_2) | (show (Addr.add _ _).block ≠ _; rw [add_block]; exact hn134_2) | exact hn134_2) (.int .i64 (wrap64 (a3 * (wrap64 ((wrap64 (2 * t131)) + (wrap64 (t132 * (ji76))))))))).trans hx134_8
                            replace hx134_9 := (cell_far (p := ⟨gb133, 2, none⟩) (by first | (rw [add_block]; exact hn134_2) | (show (Addr.add _ _).block ≠ _; rw [add_block]; exact hn134_2) | exact hn134_2) (.int .i64 (wrap64 (a3 * (wrap64 ((wrap64 (2 * t131)) + (wrap64 (t132 * (ji76))))))))).trans hx134_9
                            clear hn134_0
                            clear hn134_1
                            clear hn134_2
                            replace p134 := eq_true p134
                            replace q134 := eq_true q134
                            go_wp2
                            go_meet
                            case rel => exact ⟨_, ((rd_T34 l0 a1).f1), (by first | rfl | (simp; done) | (simp [*]; done) | exact congrArg (Value.int _) (by unfold wrap64; omega)), H', ⟨by have := HJ5.out; have := HK2.out; have := HJ65.out; first | omega | exact Nat.le_refl _⟩, ⟨by (with_reducible repeat (first | refine blk_drewN ?_ _ | refine blk_drew ?_ | refine blk_alloc ?_ _)); refine blk_far ?_ NB117_133.out _; (with_reducible repeat (first | refine blk_drewN ?_ _ | refine blk_drew ?_ | refine blk_alloc ?_ _)); refine blk_far ?_ NB117_133.out _; (with_reducible repeat (first | refine blk_drewN ?_ _ | refine blk_drew ?_ | refine blk_alloc ?_ _)); refine blk_far ?_ NB117_133.out _; (with_reducible repeat (first | refine blk_drewN ?_ _ | refine blk_drew ?_ | refine blk_alloc ?_ _)); exact BK117.out⟩, ⟨by (with_reducible repeat (first | refine blk_drewN ?_ _ | refine blk_drew ?_ | refine blk_alloc ?_ _)); refine blk_far ?_ NB118_133.out _; (with_reducible repeat (first | refine blk_drewN ?_ _ | refine blk_drew ?_ | refine blk_alloc ?_ _)); refine blk_far ?_ NB118_133.out _; (with_reducible repeat (first | refine blk_drewN ?_ _ | refine blk_drew ?_ | refine blk_alloc ?_ _)); refine blk_far ?_ NB118_133.out _; (with_reducible repeat (first | refine blk_drewN ?_ _ | refine blk_drew ?_ | refine blk_alloc ?_ _)); exact BK118.out⟩, ⟨by (with_reducible repeat (first | refine blk_drewN ?_ _ | refine blk_drew ?_ | refine blk_alloc ?_ _)); refine blk_far ?_ NB119_133.out _; (with_reducible repeat (first | refine blk_drewN ?_ _ | refine blk_drew ?_ | refine blk_alloc ?_ _)); refine blk_far ?_ NB119_133.out _; (with_reducible repeat (first | refine blk_drewN ?_ _ | refine blk_drew ?_ | refine blk_alloc ?_ _)); refine blk_far ?_ NB119_133.out _; (with_reducible repeat (first | refine blk_drewN ?_ _ | refine blk_drew ?_ | refine blk_alloc ?_ _)); exact BK119.out⟩, ⟨by (with_reducible repeat (first | refine blk_drewN ?_ _ | refine blk_drew ?_ | refine blk_alloc ?_ _)); refine blk_put (cs := #[.int .i64 (wrap64 (t129 * (wrap64 (x16_65 - x15_65)))), .int .i64 (wrap64 (t130 * a3)), .int .i64 0]) ?_ 2 _ rfl; (with_reducible repeat (first | refine blk_drewN ?_ _ | refine blk_drew ?_ | refine blk_alloc ?_ _)); refine blk_put (cs := #[.int .i64 (wrap64 (t129 * (wrap64 (x16_65 - x15_65)))), .int .i64 0, .int .i64 0]) ?_ 1 _ rfl; (with_reducible repeat (first | refine blk_drewN ?_ _ | refine blk_drew ?_ | refine blk_alloc ?_ _)); refine blk_put (cs := #[.int .i64 0, .int .i64 0, .int .i64 0]) ?_ 0 _ rfl; (with_reducible repeat (first | refine blk_drewN ?_ _ | refine blk_drew ?_ | refine blk_alloc ?_ _)); exact BK133.out⟩, ⟨by repeat (first | (with_reducible first | exact HB.out | apply below_alloc | apply pw_below_drewN | apply below_drew1 | refine below_set ?_ GE117.out | refine below_set ?_ GE118.out | refine below_set ?_ GE119.out | refine below_set ?_ GE133.out) | exact HB.out)⟩⟩
                          · rw [if_neg c89] at H
                            exact absurd H (by simp)
                        · rw [if_neg c88] at H
                          exact absurd H (by simp)
                      case rest =>
                        clear HC77
                        try clear p1
                        try clear q1
                        try clear hx1
                        try clear p2
                        try clear c3
                        try clear p6
                        try clear c8
                        try clear p13
                        try clear q13
                        try clear hx13
                        try clear c32
                        try clear c33
                        try clear p64
                        try clear c88
                        try clear c88b0
                        try clear c89
                        try clear c89b0
                        try clear hx134_0
                        try clear hx134_1
                        try clear hx134_2
                        try clear hx134_3
                        try clear hx134_4
                        try clear hx134_5
                        try clear hx134_6
                        try clear hx134_7
                        try clear hx134_8
                        try clear hx134_9
                        try clear p134
                        try clear q134
                        obtain ⟨kq, x18_76, rfl, HA, HJ76, BK117, BK118, BK119, BK133, HB⟩ := hcut
                        cases kq with
                        | zero => exact absurd HA.out (by simp [score_Of.j3])
                        | succ kj76 =>
                          have H := HA.out
                          clear HA
                          simp only [score_Of.j3] at H
                          by_cases c90 : 0 ≤ a1
                          · rw [if_pos c90] at H
                            have c90b0 : decide (0 ≤ a1) = true := decide_eq_true c90
                            clear c90
                            by_cases c91 : a1 < (l0.length : Int)
                            · rw [if_pos c91] at H
                              have c91b0 : decide (a1 < (l0.length : Int)) = true := decide_eq_true c91
                              clear c91
                              by_cases c92 : ((rd_T34 l0 a1).f0.f4) = 1
                              · rw [if_pos c92] at H
                                have c92b0 : (((rd_T34 l0 a1).f0.f4) == 1) = true := beq_iff_eq.mpr c92
                                have c92b1 : (((rd_T34 l0 a1).f0.f4) != 1) = false := bne_eq_false_iff_eq.mpr c92
                                clear c92
                                replace H := Option.bind_eq_some_iff.mp H
                                obtain ⟨t136, A930, H⟩ := H
                                replace H : (some (wrap64 ((wrap64 (t129 * (wrap64 (x16_65 - x15_65)))) - (wrap64 ((wrap64 (t136 * a2_2)) * (wrap64 (x18_76 - x15_65))))), (wrap64 (t130 * a3)), (wrap64 (a3 * (wrap64 ((wrap64 (2 * t131)) + (wrap64 (t132 * (ji76))))))), true)) = some (r1, r2, r3, r4) := H
                                have A93 := Aside0.mk A930
                                clear A930
                                simp only [Option.some.injEq, Prod.mk.injEq] at H
                                obtain ⟨rfl, rfl, rfl, rfl⟩ := H
                                have p135 : 0 ≤ (a1 : Int) := of_decide_eq_true (by first | (with_reducible assumption) | assumption)
                                have q135 : a1 < (l0.length : Int) := of_decide_eq_true (by first | (with_reducible assumption) | assumption)
                                obtain ⟨ad135, e135, hx135_0, hx135_1, hx135_2, hx135_3, hx135_4, hx135_5, hx135_6, hx135_7, hx135_8, hx135_9⟩ := at_T34 HR0.out a1 p135 q135
                                cases e135
                                replace hx135_0 := (HB.out.cell (World.block_lt_of_cell? w _ hx135_0)).trans hx135_0
                                replace hx135_1 := (HB.out.cell (World.block_lt_of_cell? w _ hx135_1)).trans hx135_1
                                replace hx135_2 := (HB.out.cell (World.block_lt_of_cell? w _ hx135_2)).trans hx135_2
                                replace hx135_3 := (HB.out.cell (World.block_lt_of_cell? w _ hx135_3)).trans hx135_3
                                replace hx135_4 := (HB.out.cell (World.block_lt_of_cell? w _ hx135_4)).trans hx135_4
                                replace hx135_5 := (HB.out.cell (World.block_lt_of_cell? w _ hx135_5)).trans hx135_5
                                replace hx135_6 := (HB.out.cell (World.block_lt_of_cell? w _ hx135_6)).trans hx135_6
                                replace hx135_7 := (HB.out.cell (World.block_lt_of_cell? w _ hx135_7)).trans hx135_7
                                replace hx135_8 := (HB.out.cell (World.block_lt_of_cell? w _ hx135_8)).trans hx135_8
                                replace hx135_9 := (HB.out.cell (World.block_lt_of_cell? w _ hx135_9)).trans hx135_9
                                replace p135 := eq_true p135
                                replace q135 := eq_true q135
                                try go_wp2
                                have n0_ := Aside0.mk (blk_drew BK117.out)
                                have n1_ := Aside0.mk (blk_drew BK118.out)
                                have n2_ := Aside0.mk (blk_drew BK119.out)
                                have n3_ := Aside0.mk (blk_drew BK133.out)
                                have n4_ := Aside0.mk (below_drew1 HB.out)
                                clear BK117
                                clear BK118
                                clear BK119
                                clear BK133
                                clear HB
                                have BK117 := n0_
                                have BK118 := n1_
                                have BK119 := n2_
                                have BK133 := n3_
                                have HB := n4_
                                clear n0_ n1_ n2_ n3_ n4_
                                refine start_ (n := 14) (S := fun w' => w'.cell? ⟨gb133, 0, none⟩ = some (.int .i64 (wrap64 (t129 * (wrap64 (x16_65 - x15_65))))) ∧ w'.cell? ⟨gb133, 1, none⟩ = some (.int .i64 (wrap64 (t130 * a3))) ∧ w'.cell? ⟨gb133, 2, none⟩ = some (.int .i64 (wrap64 (a3 * (wrap64 ((wrap64 (2 * t131)) + (wrap64 (t132 * (ji76)))))))) ∧ w'.cell? ⟨gb119, 0, none⟩ = some (.int .i64 a2_1) ∧ w'.cell? ⟨gb119, 1, none⟩ = some (.int .i64 a2_2)) (ds := [13]) #[false, false, false, false, false, false, false, false, false, false, false, false, false, false] (by kernel_rfl) rfl rfl ⟨(blk_cell BK133.out 0).trans rfl, (blk_cell BK133.out 1).trans rfl, (blk_cell BK133.out 2).trans rfl, (blk_cell BK119.out 0).trans rfl, (blk_cell BK119.out 1).trans rfl⟩ (fun hHeld => ?_); refine with_tabW score_Of.tab18 score_Of.bits18 (fun HT_ HW_ => ?_)
                                generalize wc.drew = w94 at BK117 BK118 BK119 BK133 HB hHeld ⊢
                                refine pure_ (i := 0) (N := some 114) (v := ?_) (a' := ?_) #[true, false, false, false, false, false, false, false, false, false, false, false, false, false] rfl rfl (any_of HT_.out (by kernel_rfl)) (fun _ _ _ h => h) (Or.inl ⟨by rfl, ?_⟩) ?_ ?_
                                rotate_left
                                · intro w'
                                  go_simp
                                  with_reducible rfl
                                rotate_left
                                · simp only [Act.put, List.setIfInBounds_toArray, List.set_cons_zero, List.set_cons_succ, i64_w, i32_w]
                                  rfl
                                refine pure_ (i := 4) (N := some 118) (v := ?_) (a' := ?_) #[true, false, false, false, true, false, false, false, false, false, false, false, false, false] rfl rfl (any_of HT_.out (by kernel_rfl)) (fun _ _ _ h => h) (Or.inl ⟨by rfl, ?_⟩) ?_ ?_
                                rotate_left
                                · intro w'
                                  go_simp
                                  with_reducible rfl
                                rotate_left
                                · simp only [Act.put, List.setIfInBounds_toArray, List.set_cons_zero, List.set_cons_succ, i64_w, i32_w]
                                  rfl
                                refine pure_ (i := 7) (N := some 121) (v := ?_) (a' := ?_) #[true, false, false, false, true, false, false, true, false, false, false, false, false, false] rfl rfl (any_of HT_.out (by kernel_rfl)) (fun _ _ _ h => h) (Or.inl ⟨by rfl, ?_⟩) ?_ ?_
                                rotate_left
                                · intro w'
                                  go_simp
                                  with_reducible rfl
                                rotate_left
                                · simp only [Act.put, List.setIfInBounds_toArray, List.set_cons_zero, List.set_cons_succ, i64_w, i32_w]
                                  rfl
                                refine pure_ (i := 8) (N := some 122) (v := ?_) (a' := ?_) #[true, false, false, false, true, false, false, true, true, false, false, false, false, false] rfl rfl (any_of HT_.out (by kernel_rfl)) (fun _ _ _ h => h) (Or.inl ⟨by rfl, ?_⟩) ?_ ?_
                                rotate_left
                                · intro w'
                                  go_simp
                                  with_reducible rfl
                                rotate_left
                                · simp only [Act.put, List.setIfInBounds_toArray, List.set_cons_zero, List.set_cons_succ, i64_w, i32_w]
                                  rfl
                                refine pure_ (i := 9) (N := some 123) (v := ?_) (a' := ?_) #[true, false, false, false, true, false, false, true, true, true, false, false, false, false] rfl rfl (any_of HT_.out (by kernel_rfl)) (fun _ _ _ h => h) (Or.inl ⟨by rfl, ?_⟩) ?_ ?_
                                rotate_left
                                · intro w'
                                  go_simp
                                  with_reducible rfl
                                rotate_left
                                · simp only [Act.put, List.setIfInBounds_toArray, List.set_cons_zero, List.set_cons_succ, i64_w, i32_w]
                                  rfl
                                refine take_ (i := 1) (N := some 115) (v := ?_) (a' := ?_) #[true, true, false, false, true, false, false, true, true, true, false, false, false, false] rfl rfl (take_ofW HT_.out HW_.out (by kernel_rfl)) (fun _ _ _ h => h) (Or.inl ⟨by rfl, ?_⟩) hHeld ?_ ?_
                                rotate_left
                                · rintro w' ⟨s0, s1, s2, s3, s4⟩
                                  go_simp
                                  with_reducible rfl
                                rotate_left
                                · simp only [Act.put, List.setIfInBounds_toArray, List.set_cons_zero, List.set_cons_succ, i64_w, i32_w]
                                  rfl
                                refine take_ (i := 2) (N := some 116) (v := ?_) (a' := ?_) #[true, true, true, false, true, false, false, true, true, true, false, false, false, false] rfl rfl (take_ofW HT_.out HW_.out (by kernel_rfl)) (fun _ _ _ h => h) (Or.inl ⟨by rfl, ?_⟩) hHeld ?_ ?_
                                rotate_left
                                · rintro w' ⟨s0, s1, s2, s3, s4⟩
                                  go_simp
                                  with_reducible rfl
                                rotate_left
                                · simp only [Act.put, List.setIfInBounds_toArray, List.set_cons_zero, List.set_cons_succ, i64_w, i32_w]
                                  rfl
                                refine take_ (i := 5) (N := some 119) (v := ?_) (a' := ?_) #[true, true, true, false, true, true, false, true, true, true, false, false, false, false] rfl rfl (take_ofW HT_.out HW_.out (by kernel_rfl)) (fun _ _ _ h => h) (Or.inl ⟨by rfl, ?_⟩) hHeld ?_ ?_
                                rotate_left
                                · rintro w' ⟨s0, s1, s2, s3, s4⟩
                                  go_simp
                                  with_reducible rfl
                                rotate_left
                                · simp only [Act.put, List.setIfInBounds_toArray, List.set_cons_zero, List.set_cons_succ, i64_w, i32_w]
                                  rfl
                                refine one_ (i := 3) (N := some 117) #[true, true, true, true, true, true, false, true, true, true, false, false, false, false] rfl rfl (one_of HT_.out (by kernel_rfl)) (by decide) (fun K hK => ?_)
                                refine goes_ Try.func33 (by kernel_rfl) rfl #[.agg #[.int .i64 a2_1, .int .i64 a2_2]] (by rfl) rfl rfl (by (try simp only [List.map_toArray, List.map_cons, List.map_nil]); first | done | rfl | (simp only [List.length_drop, List.length_take]; rfl)) ?_
                                with_reducible refine (score_weights_sum.calls a2_1 a2_2 t136 _ A93.out).mono ?_
                                rintro e w95 ⟨rfl, hb⟩
                                refine ⟨_, rfl, ?_⟩
                                have n0_ := Aside0.mk (blk_below (g := gb117) (o := .cells #[.int .i64 a2_0, .int .i64 a2_1, .int .i64 a2_2] 42 (0, 0)) (by (with_reducible repeat (first | refine blk_drewN ?_ _ | refine blk_drew ?_ | refine blk_alloc ?_ _)); exact BK117.out) hb)
                                have n1_ := Aside0.mk (blk_below (g := gb118) (o := .cells #[.int .i64 x119000_2, .int .i64 x119001_2, .int .i64 x119002_2] 37 (0, 0)) (by (with_reducible repeat (first | refine blk_drewN ?_ _ | refine blk_drew ?_ | refine blk_alloc ?_ _)); exact BK118.out) hb)
                                have n2_ := Aside0.mk (blk_below (g := gb119) (o := .cells #[.int .i64 a2_1, .int .i64 a2_2] 64 (0, 0)) (by (with_reducible repeat (first | refine blk_drewN ?_ _ | refine blk_drew ?_ | refine blk_alloc ?_ _)); exact BK119.out) hb)
                                have n3_ := Aside0.mk (blk_below (g := gb133) (o := .cells #[.int .i64 (wrap64 (t129 * (wrap64 (x16_65 - x15_65)))), .int .i64 (wrap64 (t130 * a3)), .int .i64 (wrap64 (a3 * (wrap64 ((wrap64 (2 * t131)) + (wrap64 (t132 * (ji76)))))))] 37 (0, 0)) (by (with_reducible repeat (first | refine blk_drewN ?_ _ | refine blk_drew ?_ | refine blk_alloc ?_ _)); exact BK133.out) hb)
                                have n4_ := Aside0.mk (below_step (by repeat (first | (with_reducible first | exact HB.out | apply below_alloc | apply pw_below_drewN | apply below_drew1 | refine below_set ?_ GE117.out | refine below_set ?_ GE118.out | refine below_set ?_ GE119.out | refine below_set ?_ GE133.out) | exact HB.out)) hb)
                                clear BK117
                                clear BK118
                                clear BK119
                                clear BK133
                                clear HB
                                have BK117 := n0_
                                have BK118 := n1_
                                have BK119 := n2_
                                have BK133 := n3_
                                have HB := n4_
                                clear n0_ n1_ n2_ n3_ n4_
                                (try clear hb)
                                (try clear hb2)
                                (try clear hk)
                                (try clear hi)
                                refine hK.out _ _ ⟨(blk_cell BK133.out 0).trans rfl, (blk_cell BK133.out 1).trans rfl, (blk_cell BK133.out 2).trans rfl, (blk_cell BK119.out 0).trans rfl, (blk_cell BK119.out 1).trans rfl⟩ (fun hHeld => ?_)
                                clear hK K
                                refine norm_ (a' := ?_) ?_ ?_
                                rotate_left
                                · show Act.put _ (some 117) _ = _
                                  simp only [Act.put, List.setIfInBounds_toArray, List.set_cons_zero, List.set_cons_succ, i64_w, i32_w]
                                  rfl
                                refine pure_ (i := 6) (N := some 120) (v := ?_) (a' := ?_) #[true, true, true, true, true, true, true, true, true, true, false, false, false, false] rfl rfl (any_of HT_.out (by kernel_rfl)) (fun _ _ _ h => h) (Or.inl ⟨by rfl, ?_⟩) ?_ ?_
                                rotate_left
                                · intro w'
                                  go_simp
                                  with_reducible rfl
                                rotate_left
                                · simp only [Act.put, List.setIfInBounds_toArray, List.set_cons_zero, List.set_cons_succ, i64_w, i32_w]
                                  rfl
                                refine pure_ (i := 10) (N := some 124) (v := ?_) (a' := ?_) #[true, true, true, true, true, true, true, true, true, true, true, false, false, false] rfl rfl (any_of HT_.out (by kernel_rfl)) (fun _ _ _ h => h) (Or.inl ⟨by rfl, ?_⟩) ?_ ?_
                                rotate_left
                                · intro w'
                                  go_simp
                                  with_reducible rfl
                                rotate_left
                                · simp only [Act.put, List.setIfInBounds_toArray, List.set_cons_zero, List.set_cons_succ, i64_w, i32_w]
                                  rfl
                                refine pure_ (i := 11) (N := some 125) (v := ?_) (a' := ?_) #[true, true, true, true, true, true, true, true, true, true, true, true, false, false] rfl rfl (any_of HT_.out (by kernel_rfl)) (fun _ _ _ h => h) (Or.inl ⟨by rfl, ?_⟩) ?_ ?_
                                rotate_left
                                · intro w'
                                  go_simp
                                  with_reducible rfl
                                rotate_left
                                · simp only [Act.put, List.setIfInBounds_toArray, List.set_cons_zero, List.set_cons_succ, i64_w, i32_w]
                                  rfl
                                refine pure_ (i := 12) (N := some 126) (v := ?_) (a' := ?_) #[true, true, true, true, true, true, true, true, true, true, true, true, true, false] rfl rfl (any_of HT_.out (by kernel_rfl)) (fun _ _ _ h => h) (Or.inl ⟨by rfl, ?_⟩) ?_ ?_
                                rotate_left
                                · intro w'
                                  go_simp
                                  with_reducible rfl
                                rotate_left
                                · simp only [Act.put, List.setIfInBounds_toArray, List.set_cons_zero, List.set_cons_succ, i64_w, i32_w]
                                  rfl
                                refine last_ (i := 13) (N := none) #[true, true, true, true, true, true, true, true, true, true, true, true, true, true] rfl rfl (one_of HT_.out (by kernel_rfl)) (by decide) (fun K hK => ?_)
                                have hs96 : w95.cell? ⟨gb133, 0, none⟩ = some (.int .i64 (wrap64 (t129 * (wrap64 (x16_65 - x15_65))))) := (blk_cell BK133.out 0).trans rfl
                                have hfs96 := blk_frozen BK133.out 0
                                have hns96_0 := NB117_133.out
                                have hns96_1 := NB118_133.out
                                have hns96_2 := NB119_133.out
                                have hms96_0 := NB133_117.out
                                have hms96_1 := NB133_118.out
                                have hms96_2 := NB133_119.out
                                refine skip_ (w1 := ?_) (by rfl) rfl ?_ ?_
                                rotate_left
                                · go_simp
                                  rfl
                                refine hK.out _ _ ?_
                                clear hK K
                                refine done_ (done_of HT_.out (by kernel_rfl)) ?_
                                have hnb97 := NB133_117.out
                                have hnc97 := NB117_133.out
                                have hnb98 := NB133_118.out
                                have hnc98 := NB118_133.out
                                have hnb99 := NB133_119.out
                                have hnc99 := NB119_133.out
                                have hcz100_0 : w95.cell? ⟨gb133, 0, none⟩ = some (.int .i64 (wrap64 (t129 * (wrap64 (x16_65 - x15_65))))) := (blk_cell BK133.out 0).trans rfl
                                have hcz100_1 : w95.cell? ⟨gb133, 1, none⟩ = some (.int .i64 (wrap64 (t130 * a3))) := (blk_cell BK133.out 1).trans rfl
                                have hcz100_2 : w95.cell? ⟨gb133, 2, none⟩ = some (.int .i64 (wrap64 (a3 * (wrap64 ((wrap64 (2 * t131)) + (wrap64 (t132 * (ji76)))))))) := (blk_cell BK133.out 2).trans rfl
                                have hfz100_0 := blk_frozen BK133.out 0
                                have hfz100_1 := blk_frozen BK133.out 1
                                have hfz100_2 := blk_frozen BK133.out 2
                                have hnb101 := NB118_117.out
                                have hnc101 := NB117_118.out
                                have hnb102 := NB118_119.out
                                have hnc102 := NB119_118.out
                                have hcz103_0 : w95.cell? ⟨gb118, 0, none⟩ = some (.int .i64 x119000_2) := (blk_cell BK118.out 0).trans rfl
                                have hcz103_1 : w95.cell? ⟨gb118, 1, none⟩ = some (.int .i64 x119001_2) := (blk_cell BK118.out 1).trans rfl
                                have hcz103_2 : w95.cell? ⟨gb118, 2, none⟩ = some (.int .i64 x119002_2) := (blk_cell BK118.out 2).trans rfl
                                have hfz103_0 := blk_frozen BK118.out 0
                                have hfz103_1 := blk_frozen BK118.out 1
                                have hfz103_2 := blk_frozen BK118.out 2
                                try go_wp2
                                refine bodyPost_ret (results_ct rfl _ _ gb118 37 #[.int .i64 (wrap64 ((wrap64 (t129 * (wrap64 (x16_65 - x15_65)))) - (wrap64 ((wrap64 (t136 * a2_2)) * (wrap64 (x18_76 - x15_65)))))), .int .i64 (wrap64 (t130 * a3)), .int .i64 (wrap64 (a3 * (wrap64 ((wrap64 (2 * t131)) + (wrap64 (t132 * (ji76)))))))] (0, 0) _ rfl (by (with_reducible repeat (first | refine blk_drewN ?_ _ | refine blk_drew ?_ | refine blk_alloc ?_ _)); refine blk_put (cs := #[.int .i64 (wrap64 ((wrap64 (t129 * (wrap64 (x16_65 - x15_65)))) - (wrap64 ((wrap64 (t136 * a2_2)) * (wrap64 (x18_76 - x15_65)))))), .int .i64 (wrap64 (t130 * a3)), .int .i64 x119002_2]) ?_ 2 _ rfl; (with_reducible repeat (first | refine blk_drewN ?_ _ | refine blk_drew ?_ | refine blk_alloc ?_ _)); refine blk_put (cs := #[.int .i64 (wrap64 ((wrap64 (t129 * (wrap64 (x16_65 - x15_65)))) - (wrap64 ((wrap64 (t136 * a2_2)) * (wrap64 (x18_76 - x15_65)))))), .int .i64 x119001_2, .int .i64 x119002_2]) ?_ 1 _ rfl; (with_reducible repeat (first | refine blk_drewN ?_ _ | refine blk_drew ?_ | refine blk_alloc ?_ _)); refine blk_put (cs := #[.int .i64 x119000_2, .int .i64 x119001_2, .int .i64 x119002_2]) ?_ 0 _ rfl; (with_reducible repeat (first | refine blk_drewN ?_ _ | refine blk_drew ?_ | refine blk_alloc ?_ _)); refine blk_far ?_ NB118_133.out _; (with_reducible repeat (first | refine blk_drewN ?_ _ | refine blk_drew ?_ | refine blk_alloc ?_ _)); exact BK118.out) Try.underlying37 rfl (by kernel_rfl)) rfl ?_
                                exact ⟨by first | rfl | (simp [errW_none, errW_some] <;> rfl) | (simp only [← hji36, ← hji76]; first | rfl | (simp [errW_none, errW_some] <;> rfl)) | (simp [*, errW_none, errW_some] <;> rfl), by repeat (first | (with_reducible first | exact HB.out | apply below_alloc | apply pw_below_drewN | apply below_drew1 | refine below_set ?_ GE117.out | refine below_set ?_ GE118.out | refine below_set ?_ GE119.out | refine below_set ?_ GE133.out) | exact HB.out)⟩
                              · rw [if_neg c92] at H
                                have c92b0 : (((rd_T34 l0 a1).f0.f4) == 1) = false := beq_eq_false_iff_ne.mpr c92
                                have c92b1 : (((rd_T34 l0 a1).f0.f4) != 1) = true := bne_iff_ne.mpr c92
                                by_cases c104 : ((rd_T34 l0 a1).f0.f4) = 2
                                · rw [if_pos c104] at H
                                  have c104b0 : (((rd_T34 l0 a1).f0.f4) == 2) = true := beq_iff_eq.mpr c104
                                  have c104b1 : (((rd_T34 l0 a1).f0.f4) != 2) = false := bne_eq_false_iff_eq.mpr c104
                                  clear c104
                                  replace H := Option.bind_eq_some_iff.mp H
                                  obtain ⟨t137, A1050, H⟩ := H
                                  replace H : (some (wrap64 ((wrap64 (t129 * (wrap64 (x16_65 - x15_65)))) + (wrap64 ((wrap64 (t137 * a2_1)) * (wrap64 (x18_76 - x16_65))))), (wrap64 (t130 * a3)), (wrap64 (a3 * (wrap64 ((wrap64 (2 * t131)) + (wrap64 (t132 * (ji76))))))), true)) = some (r1, r2, r3, r4) := H
                                  have A105 := Aside0.mk A1050
                                  clear A1050
                                  simp only [Option.some.injEq, Prod.mk.injEq] at H
                                  obtain ⟨rfl, rfl, rfl, rfl⟩ := H
                                  have p135 : 0 ≤ (a1 : Int) := of_decide_eq_true (by first | (with_reducible assumption) | assumption)
                                  have q135 : a1 < (l0.length : Int) := of_decide_eq_true (by first | (with_reducible assumption) | assumption)
                                  obtain ⟨ad135, e135, hx135_0, hx135_1, hx135_2, hx135_3, hx135_4, hx135_5, hx135_6, hx135_7, hx135_8, hx135_9⟩ := at_T34 HR0.out a1 p135 q135
                                  cases e135
                                  replace hx135_0 := (HB.out.cell (World.block_lt_of_cell? w _ hx135_0)).trans hx135_0
                                  replace hx135_1 := (HB.out.cell (World.block_lt_of_cell? w _ hx135_1)).trans hx135_1
                                  replace hx135_2 := (HB.out.cell (World.block_lt_of_cell? w _ hx135_2)).trans hx135_2
                                  replace hx135_3 := (HB.out.cell (World.block_lt_of_cell? w _ hx135_3)).trans hx135_3
                                  replace hx135_4 := (HB.out.cell (World.block_lt_of_cell? w _ hx135_4)).trans hx135_4
                                  replace hx135_5 := (HB.out.cell (World.block_lt_of_cell? w _ hx135_5)).trans hx135_5
                                  replace hx135_6 := (HB.out.cell (World.block_lt_of_cell? w _ hx135_6)).trans hx135_6
                                  replace hx135_7 := (HB.out.cell (World.block_lt_of_cell? w _ hx135_7)).trans hx135_7
                                  replace hx135_8 := (HB.out.cell (World.block_lt_of_cell? w _ hx135_8)).trans hx135_8
                                  replace hx135_9 := (HB.out.cell (World.block_lt_of_cell? w _ hx135_9)).trans hx135_9
                                  replace p135 := eq_true p135
                                  replace q135 := eq_true q135
                                  try go_wp2
                                  have n0_ := Aside0.mk (blk_drew BK117.out)
                                  have n1_ := Aside0.mk (blk_drew BK118.out)
                                  have n2_ := Aside0.mk (blk_drew BK119.out)
                                  have n3_ := Aside0.mk (blk_drew BK133.out)
                                  have n4_ := Aside0.mk (below_drew1 HB.out)
                                  clear BK117
                                  clear BK118
                                  clear BK119
                                  clear BK133
                                  clear HB
                                  have BK117 := n0_
                                  have BK118 := n1_
                                  have BK119 := n2_
                                  have BK133 := n3_
                                  have HB := n4_
                                  clear n0_ n1_ n2_ n3_ n4_
                                  refine start_ (n := 14) (S := fun w' => w'.cell? ⟨gb133, 0, none⟩ = some (.int .i64 (wrap64 (t129 * (wrap64 (x16_65 - x15_65))))) ∧ w'.cell? ⟨gb133, 1, none⟩ = some (.int .i64 (wrap64 (t130 * a3))) ∧ w'.cell? ⟨gb133, 2, none⟩ = some (.int .i64 (wrap64 (a3 * (wrap64 ((wrap64 (2 * t131)) + (wrap64 (t132 * (ji76)))))))) ∧ w'.cell? ⟨gb119, 0, none⟩ = some (.int .i64 a2_1) ∧ w'.cell? ⟨gb119, 1, none⟩ = some (.int .i64 a2_2)) (ds := [13]) #[false, false, false, false, false, false, false, false, false, false, false, false, false, false] (by kernel_rfl) rfl rfl ⟨(blk_cell BK133.out 0).trans rfl, (blk_cell BK133.out 1).trans rfl, (blk_cell BK133.out 2).trans rfl, (blk_cell BK119.out 0).trans rfl, (blk_cell BK119.out 1).trans rfl⟩ (fun hHeld => ?_); refine with_tabW score_Of.tab20 score_Of.bits20 (fun HT_ HW_ => ?_)
                                  generalize wc.drew = w106 at BK117 BK118 BK119 BK133 HB hHeld ⊢
                                  refine pure_ (i := 0) (N := some 129) (v := ?_) (a' := ?_) #[true, false, false, false, false, false, false, false, false, false, false, false, false, false] rfl rfl (any_of HT_.out (by kernel_rfl)) (fun _ _ _ h => h) (Or.inl ⟨by rfl, ?_⟩) ?_ ?_
                                  rotate_left
                                  · intro w'
                                    go_simp
                                    with_reducible rfl
                                  rotate_left
                                  · simp only [Act.put, List.setIfInBounds_toArray, List.set_cons_zero, List.set_cons_succ, i64_w, i32_w]
                                    rfl
                                  refine pure_ (i := 4) (N := some 133) (v := ?_) (a' := ?_) #[true, false, false, false, true, false, false, false, false, false, false, false, false, false] rfl rfl (any_of HT_.out (by kernel_rfl)) (fun _ _ _ h => h) (Or.inl ⟨by rfl, ?_⟩) ?_ ?_
                                  rotate_left
                                  · intro w'
                                    go_simp
                                    with_reducible rfl
                                  rotate_left
                                  · simp only [Act.put, List.setIfInBounds_toArray, List.set_cons_zero, List.set_cons_succ, i64_w, i32_w]
                                    rfl
                                  refine pure_ (i := 7) (N := some 136) (v := ?_) (a' := ?_) #[true, false, false, false, true, false, false, true, false, false, false, false, false, false] rfl rfl (any_of HT_.out (by kernel_rfl)) (fun _ _ _ h => h) (Or.inl ⟨by rfl, ?_⟩) ?_ ?_
                                  rotate_left
                                  · intro w'
                                    go_simp
                                    with_reducible rfl
                                  rotate_left
                                  · simp only [Act.put, List.setIfInBounds_toArray, List.set_cons_zero, List.set_cons_succ, i64_w, i32_w]
                                    rfl
                                  refine pure_ (i := 8) (N := some 137) (v := ?_) (a' := ?_) #[true, false, false, false, true, false, false, true, true, false, false, false, false, false] rfl rfl (any_of HT_.out (by kernel_rfl)) (fun _ _ _ h => h) (Or.inl ⟨by rfl, ?_⟩) ?_ ?_
                                  rotate_left
                                  · intro w'
                                    go_simp
                                    with_reducible rfl
                                  rotate_left
                                  · simp only [Act.put, List.setIfInBounds_toArray, List.set_cons_zero, List.set_cons_succ, i64_w, i32_w]
                                    rfl
                                  refine pure_ (i := 9) (N := some 138) (v := ?_) (a' := ?_) #[true, false, false, false, true, false, false, true, true, true, false, false, false, false] rfl rfl (any_of HT_.out (by kernel_rfl)) (fun _ _ _ h => h) (Or.inl ⟨by rfl, ?_⟩) ?_ ?_
                                  rotate_left
                                  · intro w'
                                    go_simp
                                    with_reducible rfl
                                  rotate_left
                                  · simp only [Act.put, List.setIfInBounds_toArray, List.set_cons_zero, List.set_cons_succ, i64_w, i32_w]
                                    rfl
                                  refine take_ (i := 1) (N := some 130) (v := ?_) (a' := ?_) #[true, true, false, false, true, false, false, true, true, true, false, false, false, false] rfl rfl (take_ofW HT_.out HW_.out (by kernel_rfl)) (fun _ _ _ h => h) (Or.inl ⟨by rfl, ?_⟩) hHeld ?_ ?_
                                  rotate_left
                                  · rintro w' ⟨s0, s1, s2, s3, s4⟩
                                    go_simp
                                    with_reducible rfl
                                  rotate_left
                                  · simp only [Act.put, List.setIfInBounds_toArray, List.set_cons_zero, List.set_cons_succ, i64_w, i32_w]
                                    rfl
                                  refine take_ (i := 2) (N := some 131) (v := ?_) (a' := ?_) #[true, true, true, false, true, false, false, true, true, true, false, false, false, false] rfl rfl (take_ofW HT_.out HW_.out (by kernel_rfl)) (fun _ _ _ h => h) (Or.inl ⟨by rfl, ?_⟩) hHeld ?_ ?_
                                  rotate_left
                                  · rintro w' ⟨s0, s1, s2, s3, s4⟩
                                    go_simp
                                    with_reducible rfl
                                  rotate_left
                                  · simp only [Act.put, List.setIfInBounds_toArray, List.set_cons_zero, List.set_cons_succ, i64_w, i32_w]
                                    rfl
                                  refine take_ (i := 5) (N := some 134) (v := ?_) (a' := ?_) #[true, true, true, false, true, true, false, true, true, true, false, false, false, false] rfl rfl (take_ofW HT_.out HW_.out (by kernel_rfl)) (fun _ _ _ h => h) (Or.inl ⟨by rfl, ?_⟩) hHeld ?_ ?_
                                  rotate_left
                                  · rintro w' ⟨s0, s1, s2, s3, s4⟩
                                    go_simp
                                    with_reducible rfl
                                  rotate_left
                                  · simp only [Act.put, List.setIfInBounds_toArray, List.set_cons_zero, List.set_cons_succ, i64_w, i32_w]
                                    rfl
                                  refine one_ (i := 3) (N := some 132) #[true, true, true, true, true, true, false, true, true, true, false, false, false, false] rfl rfl (one_of HT_.out (by kernel_rfl)) (by decide) (fun K hK => ?_)
                                  refine goes_ Try.func33 (by kernel_rfl) rfl #[.agg #[.int .i64 a2_1, .int .i64 a2_2]] (by rfl) rfl rfl (by (try simp only [List.map_toArray, List.map_cons, List.map_nil]); first | done | rfl | (simp only [List.length_drop, List.length_take]; rfl)) ?_
                                  with_reducible refine (score_weights_sum.calls a2_1 a2_2 t137 _ A105.out).mono ?_
                                  rintro e w107 ⟨rfl, hb⟩
                                  refine ⟨_, rfl, ?_⟩
                                  have n0_ := Aside0.mk (blk_below (g := gb117) (o := .cells #[.int .i64 a2_0, .int .i64 a2_1, .int .i64 a2_2] 42 (0, 0)) (by (with_reducible repeat (first | refine blk_drewN ?_ _ | refine blk_drew ?_ | refine blk_alloc ?_ _)); exact BK117.out) hb)
                                  have n1_ := Aside0.mk (blk_below (g := gb118) (o := .cells #[.int .i64 x119000_2, .int .i64 x119001_2, .int .i64 x119002_2] 37 (0, 0)) (by (with_reducible repeat (first | refine blk_drewN ?_ _ | refine blk_drew ?_ | refine blk_alloc ?_ _)); exact BK118.out) hb)
                                  have n2_ := Aside0.mk (blk_below (g := gb119) (o := .cells #[.int .i64 a2_1, .int .i64 a2_2] 64 (0, 0)) (by (with_reducible repeat (first | refine blk_drewN ?_ _ | refine blk_drew ?_ | refine blk_alloc ?_ _)); exact BK119.out) hb)
                                  have n3_ := Aside0.mk (blk_below (g := gb133) (o := .cells #[.int .i64 (wrap64 (t129 * (wrap64 (x16_65 - x15_65)))), .int .i64 (wrap64 (t130 * a3)), .int .i64 (wrap64 (a3 * (wrap64 ((wrap64 (2 * t131)) + (wrap64 (t132 * (ji76)))))))] 37 (0, 0)) (by (with_reducible repeat (first | refine blk_drewN ?_ _ | refine blk_drew ?_ | refine blk_alloc ?_ _)); exact BK133.out) hb)
                                  have n4_ := Aside0.mk (below_step (by repeat (first | (with_reducible first | exact HB.out | apply below_alloc | apply pw_below_drewN | apply below_drew1 | refine below_set ?_ GE117.out | refine below_set ?_ GE118.out | refine below_set ?_ GE119.out | refine below_set ?_ GE133.out) | exact HB.out)) hb)
                                  clear BK117
                                  clear BK118
                                  clear BK119
                                  clear BK133
                                  clear HB
                                  have BK117 := n0_
                                  have BK118 := n1_
                                  have BK119 := n2_
                                  have BK133 := n3_
                                  have HB := n4_
                                  clear n0_ n1_ n2_ n3_ n4_
                                  (try clear hb)
                                  (try clear hb2)
                                  (try clear hk)
                                  (try clear hi)
                                  refine hK.out _ _ ⟨(blk_cell BK133.out 0).trans rfl, (blk_cell BK133.out 1).trans rfl, (blk_cell BK133.out 2).trans rfl, (blk_cell BK119.out 0).trans rfl, (blk_cell BK119.out 1).trans rfl⟩ (fun hHeld => ?_)
                                  clear hK K
                                  refine norm_ (a' := ?_) ?_ ?_
                                  rotate_left
                                  · show Act.put _ (some 132) _ = _
                                    simp only [Act.put, List.setIfInBounds_toArray, List.set_cons_zero, List.set_cons_succ, i64_w, i32_w]
                                    rfl
                                  refine pure_ (i := 6) (N := some 135) (v := ?_) (a' := ?_) #[true, true, true, true, true, true, true, true, true, true, false, false, false, false] rfl rfl (any_of HT_.out (by kernel_rfl)) (fun _ _ _ h => h) (Or.inl ⟨by rfl, ?_⟩) ?_ ?_
                                  rotate_left
                                  · intro w'
                                    go_simp
                                    with_reducible rfl
                                  rotate_left
                                  · simp only [Act.put, List.setIfInBounds_toArray, List.set_cons_zero, List.set_cons_succ, i64_w, i32_w]
                                    rfl
                                  refine pure_ (i := 10) (N := some 139) (v := ?_) (a' := ?_) #[true, true, true, true, true, true, true, true, true, true, true, false, false, false] rfl rfl (any_of HT_.out (by kernel_rfl)) (fun _ _ _ h => h) (Or.inl ⟨by rfl, ?_⟩) ?_ ?_
                                  rotate_left
                                  · intro w'
                                    go_simp
                                    with_reducible rfl
                                  rotate_left
                                  · simp only [Act.put, List.setIfInBounds_toArray, List.set_cons_zero, List.set_cons_succ, i64_w, i32_w]
                                    rfl
                                  refine pure_ (i := 11) (N := some 140) (v := ?_) (a' := ?_) #[true, true, true, true, true, true, true, true, true, true, true, true, false, false] rfl rfl (any_of HT_.out (by kernel_rfl)) (fun _ _ _ h => h) (Or.inl ⟨by rfl, ?_⟩) ?_ ?_
                                  rotate_left
                                  · intro w'
                                    go_simp
                                    with_reducible rfl
                                  rotate_left
                                  · simp only [Act.put, List.setIfInBounds_toArray, List.set_cons_zero, List.set_cons_succ, i64_w, i32_w]
                                    rfl
                                  refine pure_ (i := 12) (N := some 141) (v := ?_) (a' := ?_) #[true, true, true, true, true, true, true, true, true, true, true, true, true, false] rfl rfl (any_of HT_.out (by kernel_rfl)) (fun _ _ _ h => h) (Or.inl ⟨by rfl, ?_⟩) ?_ ?_
                                  rotate_left
                                  · intro w'
                                    go_simp
                                    with_reducible rfl
                                  rotate_left
                                  · simp only [Act.put, List.setIfInBounds_toArray, List.set_cons_zero, List.set_cons_succ, i64_w, i32_w]
                                    rfl
                                  refine last_ (i := 13) (N := none) #[true, true, true, true, true, true, true, true, true, true, true, true, true, true] rfl rfl (one_of HT_.out (by kernel_rfl)) (by decide) (fun K hK => ?_)
                                  have hs108 : w107.cell? ⟨gb133, 0, none⟩ = some (.int .i64 (wrap64 (t129 * (wrap64 (x16_65 - x15_65))))) := (blk_cell BK133.out 0).trans rfl
                                  have hfs108 := blk_frozen BK133.out 0
                                  have hns108_0 := NB117_133.out
                                  have hns108_1 := NB118_133.out
                                  have hns108_2 := NB119_133.out
                                  have hms108_0 := NB133_117.out
                                  have hms108_1 := NB133_118.out
                                  have hms108_2 := NB133_119.out
                                  refine skip_ (w1 := ?_) (by rfl) rfl ?_ ?_
                                  rotate_left
                                  · go_simp
                                    rfl
                                  refine hK.out _ _ ?_
                                  clear hK K
                                  refine done_ (done_of HT_.out (by kernel_rfl)) ?_
                                  have hnb109 := NB133_117.out
                                  have hnc109 := NB117_133.out
                                  have hnb110 := NB133_118.out
                                  have hnc110 := NB118_133.out
                                  have hnb111 := NB133_119.out
                                  have hnc111 := NB119_133.out
                                  have hcz112_0 : w107.cell? ⟨gb133, 0, none⟩ = some (.int .i64 (wrap64 (t129 * (wrap64 (x16_65 - x15_65))))) := (blk_cell BK133.out 0).trans rfl
                                  have hcz112_1 : w107.cell? ⟨gb133, 1, none⟩ = some (.int .i64 (wrap64 (t130 * a3))) := (blk_cell BK133.out 1).trans rfl
                                  have hcz112_2 : w107.cell? ⟨gb133, 2, none⟩ = some (.int .i64 (wrap64 (a3 * (wrap64 ((wrap64 (2 * t131)) + (wrap64 (t132 * (ji76)))))))) := (blk_cell BK133.out 2).trans rfl
                                  have hfz112_0 := blk_frozen BK133.out 0
                                  have hfz112_1 := blk_frozen BK133.out 1
                                  have hfz112_2 := blk_frozen BK133.out 2
                                  have hnb113 := NB118_117.out
                                  have hnc113 := NB117_118.out
                                  have hnb114 := NB118_119.out
                                  have hnc114 := NB119_118.out
                                  have hcz115_0 : w107.cell? ⟨gb118, 0, none⟩ = some (.int .i64 x119000_2) := (blk_cell BK118.out 0).trans rfl
                                  have hcz115_1 : w107.cell? ⟨gb118, 1, none⟩ = some (.int .i64 x119001_2) := (blk_cell BK118.out 1).trans rfl
                                  have hcz115_2 : w107.cell? ⟨gb118, 2, none⟩ = some (.int .i64 x119002_2) := (blk_cell BK118.out 2).trans rfl
                                  have hfz115_0 := blk_frozen BK118.out 0
                                  have hfz115_1 := blk_frozen BK118.out 1
                                  have hfz115_2 := blk_frozen BK118.out 2
                                  try go_wp2
                                  refine bodyPost_ret (results_ct rfl _ _ gb118 37 #[.int .i64 (wrap64 ((wrap64 (t129 * (wrap64 (x16_65 - x15_65)))) + (wrap64 ((wrap64 (t137 * a2_1)) * (wrap64 (x18_76 - x16_65)))))), .int .i64 (wrap64 (t130 * a3)), .int .i64 (wrap64 (a3 * (wrap64 ((wrap64 (2 * t131)) + (wrap64 (t132 * (ji76)))))))] (0, 0) _ rfl (by (with_reducible repeat (first | refine blk_drewN ?_ _ | refine blk_drew ?_ | refine blk_alloc ?_ _)); refine blk_put (cs := #[.int .i64 (wrap64 ((wrap64 (t129 * (wrap64 (x16_65 - x15_65)))) + (wrap64 ((wrap64 (t137 * a2_1)) * (wrap64 (x18_76 - x16_65)))))), .int .i64 (wrap64 (t130 * a3)), .int .i64 x119002_2]) ?_ 2 _ rfl; (with_reducible repeat (first | refine blk_drewN ?_ _ | refine blk_drew ?_ | refine blk_alloc ?_ _)); refine blk_put (cs := #[.int .i64 (wrap64 ((wrap64 (t129 * (wrap64 (x16_65 - x15_65)))) + (wrap64 ((wrap64 (t137 * a2_1)) * (wrap64 (x18_76 - x16_65)))))), .int .i64 x119001_2, .int .i64 x119002_2]) ?_ 1 _ rfl; (with_reducible repeat (first | refine blk_drewN ?_ _ | refine blk_drew ?_ | refine blk_alloc ?_ _)); refine blk_put (cs := #[.int .i64 x119000_2, .int .i64 x119001_2, .int .i64 x119002_2]) ?_ 0 _ rfl; (with_reducible repeat (first | refine blk_drewN ?_ _ | refine blk_drew ?_ | refine blk_alloc ?_ _)); refine blk_far ?_ NB118_133.out _; (with_reducible repeat (first | refine blk_drewN ?_ _ | refine blk_drew ?_ | refine blk_alloc ?_ _)); exact BK118.out) Try.underlying37 rfl (by kernel_rfl)) rfl ?_
                                  exact ⟨by first | rfl | (simp [errW_none, errW_some] <;> rfl) | (simp only [← hji36, ← hji76]; first | rfl | (simp [errW_none, errW_some] <;> rfl)) | (simp [*, errW_none, errW_some] <;> rfl), by repeat (first | (with_reducible first | exact HB.out | apply below_alloc | apply pw_below_drewN | apply below_drew1 | refine below_set ?_ GE117.out | refine below_set ?_ GE118.out | refine below_set ?_ GE119.out | refine below_set ?_ GE133.out) | exact HB.out)⟩
                                · rw [if_neg c104] at H
                                  have c104b0 : (((rd_T34 l0 a1).f0.f4) == 2) = false := beq_eq_false_iff_ne.mpr c104
                                  have c104b1 : (((rd_T34 l0 a1).f0.f4) != 2) = true := bne_iff_ne.mpr c104
                                  simp only [Option.some.injEq, Prod.mk.injEq] at H
                                  obtain ⟨rfl, rfl, rfl, rfl⟩ := H
                                  have p135 : 0 ≤ (a1 : Int) := of_decide_eq_true (by first | (with_reducible assumption) | assumption)
                                  have q135 : a1 < (l0.length : Int) := of_decide_eq_true (by first | (with_reducible assumption) | assumption)
                                  obtain ⟨ad135, e135, hx135_0, hx135_1, hx135_2, hx135_3, hx135_4, hx135_5, hx135_6, hx135_7, hx135_8, hx135_9⟩ := at_T34 HR0.out a1 p135 q135
                                  cases e135
                                  replace hx135_0 := (HB.out.cell (World.block_lt_of_cell? w _ hx135_0)).trans hx135_0
                                  replace hx135_1 := (HB.out.cell (World.block_lt_of_cell? w _ hx135_1)).trans hx135_1
                                  replace hx135_2 := (HB.out.cell (World.block_lt_of_cell? w _ hx135_2)).trans hx135_2
                                  replace hx135_3 := (HB.out.cell (World.block_lt_of_cell? w _ hx135_3)).trans hx135_3
                                  replace hx135_4 := (HB.out.cell (World.block_lt_of_cell? w _ hx135_4)).trans hx135_4
                                  replace hx135_5 := (HB.out.cell (World.block_lt_of_cell? w _ hx135_5)).trans hx135_5
                                  replace hx135_6 := (HB.out.cell (World.block_lt_of_cell? w _ hx135_6)).trans hx135_6
                                  replace hx135_7 := (HB.out.cell (World.block_lt_of_cell? w _ hx135_7)).trans hx135_7
                                  replace hx135_8 := (HB.out.cell (World.block_lt_of_cell? w _ hx135_8)).trans hx135_8
                                  replace hx135_9 := (HB.out.cell (World.block_lt_of_cell? w _ hx135_9)).trans hx135_9
                                  replace p135 := eq_true p135
                                  replace q135 := eq_true q135
                                  have hnb116 := NB118_117.out
                                  have hnc116 := NB117_118.out
                                  have hnb117 := NB118_119.out
                                  have hnc117 := NB119_118.out
                                  have hnb118 := NB118_133.out
                                  have hnc118 := NB133_118.out
                                  have hcz119_0 : wc.cell? ⟨gb118, 0, none⟩ = some (.int .i64 x119000_2) := (blk_cell BK118.out 0).trans rfl
                                  have hcz119_1 : wc.cell? ⟨gb118, 1, none⟩ = some (.int .i64 x119001_2) := (blk_cell BK118.out 1).trans rfl
                                  have hcz119_2 : wc.cell? ⟨gb118, 2, none⟩ = some (.int .i64 x119002_2) := (blk_cell BK118.out 2).trans rfl
                                  have hfz119_0 := blk_frozen BK118.out 0
                                  have hfz119_1 := blk_frozen BK118.out 1
                                  have hfz119_2 := blk_frozen BK118.out 2
                                  go_wp2
                                  refine bodyPost_ret (results_ct rfl _ _ gb118 37 #[.int .i64 0, .int .i64 0, .int .i64 0] (0, 0) _ rfl (by (with_reducible repeat (first | refine blk_drewN ?_ _ | refine blk_drew ?_ | refine blk_alloc ?_ _)); refine blk_put (cs := #[.int .i64 0, .int .i64 0, .int .i64 x119002_2]) ?_ 2 _ rfl; (with_reducible repeat (first | refine blk_drewN ?_ _ | refine blk_drew ?_ | refine blk_alloc ?_ _)); refine blk_put (cs := #[.int .i64 0, .int .i64 x119001_2, .int .i64 x119002_2]) ?_ 1 _ rfl; (with_reducible repeat (first | refine blk_drewN ?_ _ | refine blk_drew ?_ | refine blk_alloc ?_ _)); refine blk_put (cs := #[.int .i64 x119000_2, .int .i64 x119001_2, .int .i64 x119002_2]) ?_ 0 _ rfl; (with_reducible repeat (first | refine blk_drewN ?_ _ | refine blk_drew ?_ | refine blk_alloc ?_ _)); exact BK118.out) Try.underlying37 rfl (by kernel_rfl)) rfl ?_
                                  exact ⟨by first | rfl | (simp [errW_none, errW_some] <;> rfl) | (simp only [← hji36, ← hji76]; first | rfl | (simp [errW_none, errW_some] <;> rfl)) | (simp [*, errW_none, errW_some] <;> rfl), by repeat (first | (with_reducible first | exact HB.out | apply below_alloc | apply pw_below_drewN | apply below_drew1 | refine below_set ?_ GE117.out | refine below_set ?_ GE118.out | refine below_set ?_ GE119.out | refine below_set ?_ GE133.out) | exact HB.out)⟩
                            · rw [if_neg c91] at H
                              exact absurd H (by simp)
                          · rw [if_neg c90] at H
                            exact absurd H (by simp)
          · rw [if_neg c38] at H
            exact absurd H (by simp)
        · rw [if_neg c37] at H
          exact absurd H (by simp)

end Go.Proofs.Ytdmhdbebjjhopaa.PA
