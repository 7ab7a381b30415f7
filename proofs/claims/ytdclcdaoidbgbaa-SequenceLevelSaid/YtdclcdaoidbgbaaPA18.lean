-- Written by a program of this seat's session (wip/tools/ownprint.py, over the kit's printer) out of the translation: functions and their contracts.
import Derived.Test.YtdclcdaoidbgbaaPA0
import Derived.Test.YtdclcdaoidbgbaaPA16
import Derived.Test.YtdclcdaoidbgbaaPA17
namespace Go.Proofs.Ytdclcdaoidbgbaa.PA
open Go.RowKit Go.Proofs.YtdclcdaoidbgbaaW.PrintWords Go.Proofs.YtdclcdaoidbgbaaW.PrintLast Go.Proofs.YtdclcdaoidbgbaaW.PrintMore
attribute [local go_sem] max2_int min2_int max_two min_two max_three min_three max_four min_four   -- for this text's walks alone
set_option linter.unusedVariables false
set_option linter.unusedSimpArgs false

/-! ### score_Of: function 37 -/
mutual
def score_Of.j0 : Nat → List (S70) → Int → Int → Bool → Bool → Int → Int → Option (Int × Int × Int × Bool)
 | 0, _, _, _, _, _, _, _ => none
 | k + 1, x0, x1, x3, x4, x44, x337000, x337001 => if x44 = true then (some (0, 0, 0, false)) else (if 0 ≤ (wrap64 (x1 + 1)) then (if (wrap64 (x1 + 1)) ≤ (x0.length : Int) then ((some (x0.take ((wrap64 (x1 + 1)) : Int).toNat : List (S70))).bind fun y338 => (score_Of.l0 k x0 x1 x3 x4 y338 (y338.length : Int) 0 x337000 x337001)) else (none)) else (none))
def score_Of.l0 : Nat → List (S70) → Int → Int → Bool → List (S70) → Int → Int → Int → Int → Option (Int × Int × Int × Bool)
 | 0, _, _, _, _, _, _, _, _, _ => none
 | k + 1, x0, x1, x3, x4, x49, x50, x51, x337000, x337001 => if x51 < x50 then (if 0 ≤ x51 then (if x51 < (x49.length : Int) then (if ((rd_T70 x49 x51).f1) < 0 then (some (0, 0, 0, false)) else (if ((rd_T70 x49 x51).f1) > x3 then (some (0, 0, 0, false)) else (score_Of.l0 k x0 x1 x3 x4 x49 x50 (wrap64 (x51 + 1)) x337000 x337001))) else (none)) else (none)) else (if x4 = true then ((score_Predict.f k x0 x1 1 x3).bind fun t344 => ((score_Predict.f k x0 x1 2 x3).bind fun t345 => (score_Of.j2 k x0 x1 x3 t344 t345 x337000 x337001))) else (score_Of.j2 k x0 x1 x3 0 0 x337000 x337001))
def score_Of.j2 : Nat → List (S70) → Int → Int → Int → Int → Int → Int → Option (Int × Int × Int × Bool)
 | 0, _, _, _, _, _, _, _ => none
 | k + 1, x0, x1, x3, x15, x16, x337000, x337001 => (score_weights_product.f x337000 x337001).bind fun t346 => ((score_weights_product.f x337000 x337001).bind fun t347 => ((score_weights_product.f x337000 x337001).bind fun t348 => ((score_weights_sum.f x337000 x337001).bind fun t349 => (if 0 ≤ x1 then (if x1 < (x0.length : Int) then (score_Of.j3 k x0 x1 x15 x16 ((rd_T70 x0 x1).f1) x337000 x337001 (wrap64 (t346 * (wrap64 (x16 - x15)))) (wrap64 (t347 * x3)) (wrap64 (x3 * (wrap64 ((wrap64 (2 * t348)) + (wrap64 (t349 * (mx x337000 x337001)))))))) else (none)) else (none)))))
def score_Of.j3 : Nat → List (S70) → Int → Int → Int → Int → Int → Int → Int → Int → Int → Option (Int × Int × Int × Bool)
 | 0, _, _, _, _, _, _, _, _, _, _ => none
 | k + 1, x0, x1, x15, x16, x18, x337000, x337001, x351000, x351001, x351002 => if 0 ≤ x1 then (if x1 < (x0.length : Int) then (if ((rd_T70 x0 x1).f0.f4) = 1 then ((score_weights_sum.f x337000 x337001).bind fun t353 => (some (wrap64 (x351000 - (wrap64 ((wrap64 (t353 * x337001)) * (wrap64 (x18 - x15))))), x351001, x351002, true))) else (if ((rd_T70 x0 x1).f0.f4) = 2 then ((score_weights_sum.f x337000 x337001).bind fun t354 => (some (wrap64 (x351000 + (wrap64 ((wrap64 (t354 * x337000)) * (wrap64 (x18 - x16))))), x351001, x351002, true))) else (some (0, 0, 0, false)))) else (none)) else (none)
end
def score_Of.f (k : Nat) (l0 : List (S70)) (a1 : Int) (a2_0 : Int) (a2_1 : Int) (a2_2 : Int) (a3 : Int) (a4 : Bool) : Option (Int × Int × Int × Bool) := if a1 < 0 then (score_Of.j0 k l0 a1 a3 a4 true a2_1 a2_2) else (if a1 ≥ (l0.length : Int) then (score_Of.j0 k l0 a1 a3 a4 true a2_1 a2_2) else ((score_weights_valid.f a2_1 a2_2).bind fun t337 => (if t337 = true then (if a3 < 1 then (score_Of.j0 k l0 a1 a3 a4 true a2_1 a2_2) else (score_Of.j0 k l0 a1 a3 a4 (decide (a3 > 1048576)) a2_1 a2_2)) else (score_Of.j0 k l0 a1 a3 a4 true a2_1 a2_2))))
theorem score_Of.mono_l : ∀ k, (∀ y0 y1 y2 y3 y4 y5 y6, LeO (score_Of.j0 k y0 y1 y2 y3 y4 y5 y6) (score_Of.j0 (k + 1) y0 y1 y2 y3 y4 y5 y6)) ∧ (∀ y0 y1 y2 y3 y4 y5 y6 y7 y8, LeO (score_Of.l0 k y0 y1 y2 y3 y4 y5 y6 y7 y8) (score_Of.l0 (k + 1) y0 y1 y2 y3 y4 y5 y6 y7 y8)) ∧ (∀ y0 y1 y2 y3 y4 y5 y6, LeO (score_Of.j2 k y0 y1 y2 y3 y4 y5 y6) (score_Of.j2 (k + 1) y0 y1 y2 y3 y4 y5 y6)) ∧ (∀ y0 y1 y2 y3 y4 y5 y6 y7 y8 y9, LeO (score_Of.j3 k y0 y1 y2 y3 y4 y5 y6 y7 y8 y9) (score_Of.j3 (k + 1) y0 y1 y2 y3 y4 y5 y6 y7 y8 y9))
 | 0 => ⟨fun _ _ _ _ _ _ _ r h => by simp [score_Of.j0] at h, fun _ _ _ _ _ _ _ _ _ r h => by simp [score_Of.l0] at h, fun _ _ _ _ _ _ _ r h => by simp [score_Of.j2] at h, fun _ _ _ _ _ _ _ _ _ _ r h => by simp [score_Of.j3] at h⟩
 | k + 1 => by
  obtain ⟨ih0, ih1, ih2, ih3⟩ := score_Of.mono_l k
  refine ⟨?_, ?_, ?_, ?_⟩
  ·intro y0 y1 y2 y3 y4 y5 y6
   unfold score_Of.j0
   repeat' first
   | (with_reducible exact ih0 _ _ _ _ _ _ _)
   | (with_reducible exact ih1 _ _ _ _ _ _ _ _ _)
   | (with_reducible exact ih2 _ _ _ _ _ _ _)
   | (with_reducible exact ih3 _ _ _ _ _ _ _ _ _ _)
   | (with_reducible exact score_Predict.mono _ _ _ _ _)
   | (with_reducible exact LeO.refl _)
   | (with_reducible exact LeO.none _)
   | (with_reducible refine LeO.ite ?_ ?_)
   | (with_reducible refine LeO.bind ?_ (fun _ => ?_))
   | exact ih0 _ _ _ _ _ _ _
   | exact ih1 _ _ _ _ _ _ _ _ _
   | exact ih2 _ _ _ _ _ _ _
   | exact ih3 _ _ _ _ _ _ _ _ _ _
   | exact score_Predict.mono _ _ _ _ _
   | exact LeO.none _
   | refine LeO.ite ?_ ?_
   | refine LeO.bind ?_ (fun _ => ?_)
  ·intro y0 y1 y2 y3 y4 y5 y6 y7 y8
   unfold score_Of.l0
   repeat' first
   | (with_reducible exact ih0 _ _ _ _ _ _ _)
   | (with_reducible exact ih1 _ _ _ _ _ _ _ _ _)
   | (with_reducible exact ih2 _ _ _ _ _ _ _)
   | (with_reducible exact ih3 _ _ _ _ _ _ _ _ _ _)
   | (with_reducible exact score_Predict.mono _ _ _ _ _)
   | (with_reducible exact LeO.refl _)
   | (with_reducible exact LeO.none _)
   | (with_reducible refine LeO.ite ?_ ?_)
   | (with_reducible refine LeO.bind ?_ (fun _ => ?_))
   | exact ih0 _ _ _ _ _ _ _
   | exact ih1 _ _ _ _ _ _ _ _ _
   | exact ih2 _ _ _ _ _ _ _
   | exact ih3 _ _ _ _ _ _ _ _ _ _
   | exact score_Predict.mono _ _ _ _ _
   | exact LeO.none _
   | refine LeO.ite ?_ ?_
   | refine LeO.bind ?_ (fun _ => ?_)
  ·intro y0 y1 y2 y3 y4 y5 y6
   unfold score_Of.j2
   repeat' first
   | (with_reducible exact ih0 _ _ _ _ _ _ _)
   | (with_reducible exact ih1 _ _ _ _ _ _ _ _ _)
   | (with_reducible exact ih2 _ _ _ _ _ _ _)
   | (with_reducible exact ih3 _ _ _ _ _ _ _ _ _ _)
   | (with_reducible exact score_Predict.mono _ _ _ _ _)
   | (with_reducible exact LeO.refl _)
   | (with_reducible exact LeO.none _)
   | (with_reducible refine LeO.ite ?_ ?_)
   | (with_reducible refine LeO.bind ?_ (fun _ => ?_))
   | exact ih0 _ _ _ _ _ _ _
   | exact ih1 _ _ _ _ _ _ _ _ _
   | exact ih2 _ _ _ _ _ _ _
   | exact ih3 _ _ _ _ _ _ _ _ _ _
   | exact score_Predict.mono _ _ _ _ _
   | exact LeO.none _
   | refine LeO.ite ?_ ?_
   | refine LeO.bind ?_ (fun _ => ?_)
  ·intro y0 y1 y2 y3 y4 y5 y6 y7 y8 y9
   unfold score_Of.j3
   repeat' first
   | (with_reducible exact ih0 _ _ _ _ _ _ _)
   | (with_reducible exact ih1 _ _ _ _ _ _ _ _ _)
   | (with_reducible exact ih2 _ _ _ _ _ _ _)
   | (with_reducible exact ih3 _ _ _ _ _ _ _ _ _ _)
   | (with_reducible exact score_Predict.mono _ _ _ _ _)
   | (with_reducible exact LeO.refl _)
   | (with_reducible exact LeO.none _)
   | (with_reducible refine LeO.ite ?_ ?_)
   | (with_reducible refine LeO.bind ?_ (fun _ => ?_))
   | exact ih0 _ _ _ _ _ _ _
   | exact ih1 _ _ _ _ _ _ _ _ _
   | exact ih2 _ _ _ _ _ _ _
   | exact ih3 _ _ _ _ _ _ _ _ _ _
   | exact score_Predict.mono _ _ _ _ _
   | exact LeO.none _
   | refine LeO.ite ?_ ?_
   | refine LeO.bind ?_ (fun _ => ?_)
theorem score_Of.mono : ∀ a0 a1 a2 a3 a4 a5 a6 k, LeO (score_Of.f k a0 a1 a2 a3 a4 a5 a6) (score_Of.f (k + 1) a0 a1 a2 a3 a4 a5 a6) := by
 intro a0 a1 a2 a3 a4 a5 a6 k
 obtain ⟨ih0, ih1, ih2, ih3⟩ := score_Of.mono_l k
 unfold score_Of.f
 repeat' first
   | (with_reducible exact ih0 _ _ _ _ _ _ _)
   | (with_reducible exact ih1 _ _ _ _ _ _ _ _ _)
   | (with_reducible exact ih2 _ _ _ _ _ _ _)
   | (with_reducible exact ih3 _ _ _ _ _ _ _ _ _ _)
   | (with_reducible exact score_Predict.mono _ _ _ _ _)
   | (with_reducible exact LeO.refl _)
   | (with_reducible exact LeO.none _)
   | (with_reducible refine LeO.ite ?_ ?_)
   | (with_reducible refine LeO.bind ?_ (fun _ => ?_))
   | exact ih0 _ _ _ _ _ _ _
   | exact ih1 _ _ _ _ _ _ _ _ _
   | exact ih2 _ _ _ _ _ _ _
   | exact ih3 _ _ _ _ _ _ _ _ _ _
   | exact score_Predict.mono _ _ _ _ _
   | exact LeO.none _
   | refine LeO.ite ?_ ?_
   | refine LeO.bind ?_ (fun _ => ?_)
def score_Of.T13 : Bool × List (List Nat × List Nat) := (true, [([], []), ([0], [0]), ([], []), ([], []), ([2, 3], [2, 3]), ([1, 4], [1, 4]), ([], []), ([6, 1], [6]), ([], []), ([7, 8], [7, 8]), ([], []), ([], []), ([11, 7], [11]), ([12], [12]), ([], []), ([14, 12], [14]), ([], []), ([16], [16]), ([], []), ([18], [18]), ([17, 19], [17, 19]), ([15, 20], [15, 20]), ([13, 21], [13, 21]), ([10, 22], [10, 22]), ([5, 9, 23], [5, 9, 23]), ([], []), ([25, 24, 15, 0, 1, 2, 3, 4, 5, 6, 7, 8, 9, 10, 11, 12, 13, 14, 15, 16, 17, 18, 19, 20, 21, 22, 23, 24, 25], [24, 25])])
def score_Of.B13 : List Nat := [0, 1, 0, 0, 12, 31, 0, 67, 0, 451, 0, 0, 2243, 6339, 0, 22723, 0, 65536, 0, 262144, 983040, 2087107, 4192451, 8387779, 16777215, 0, 67108863]
theorem score_Of.tab13 : rtab .any (opsOf Try.f37 13) = score_Of.T13 := by kernel_rfl
theorem score_Of.bits13 : waitsOk score_Of.T13.2 score_Of.B13 = true := by kernel_rfl
def score_Of.T18 : Bool × List (List Nat × List Nat) := (true, [([], []), ([0], [0]), ([], []), ([2], [2]), ([], []), ([4], [4]), ([3, 5], [3, 5]), ([], []), ([], []), ([7, 8], [7, 8]), ([6, 9], [6, 9]), ([1, 10], [1, 10]), ([0, 1, 2, 3, 4, 5, 6, 7, 8, 9, 10, 11], []), ([12, 11, 3, 0, 1, 2, 3, 4, 5, 6, 7, 8, 9, 10, 11], [11, 12])])
def score_Of.B18 : List Nat := [0, 1, 0, 4, 0, 16, 60, 0, 0, 384, 1020, 2047, 4095, 8191]
theorem score_Of.tab18 : rtab .any (opsOf Try.f37 18) = score_Of.T18 := by kernel_rfl
theorem score_Of.bits18 : waitsOk score_Of.T18.2 score_Of.B18 = true := by kernel_rfl
def score_Of.T20 : Bool × List (List Nat × List Nat) := (true, [([], []), ([0], [0]), ([], []), ([2], [2]), ([], []), ([4], [4]), ([3, 5], [3, 5]), ([], []), ([], []), ([7, 8], [7, 8]), ([6, 9], [6, 9]), ([1, 10], [1, 10]), ([0, 1, 2, 3, 4, 5, 6, 7, 8, 9, 10, 11], []), ([12, 11, 3, 0, 1, 2, 3, 4, 5, 6, 7, 8, 9, 10, 11], [11, 12])])
def score_Of.B20 : List Nat := [0, 1, 0, 4, 0, 16, 60, 0, 0, 384, 1020, 2047, 4095, 8191]
theorem score_Of.tab20 : rtab .any (opsOf Try.f37 20) = score_Of.T20 := by kernel_rfl
theorem score_Of.bits20 : waitsOk score_Of.T20.2 score_Of.B20 = true := by kernel_rfl
set_option maxHeartbeats 8000000 in
set_option maxRecDepth 100000 in
theorem score_Of.calls (k : Nat) (A0 : Option Addr) (c0 : Nat) (l0 : List (S70)) (a1 : Int) (a2_0 : Int) (a2_1 : Int) (a2_2 : Int) (a3 : Int) (a4 : Bool) (r1 : Int) (r2 : Int) (r3 : Int) (r4 : Bool) (w : World) (hr0 : Kd.C k70 w A0 l0.length l0) (hc0 : l0.length ≤ c0) (h : score_Of.f k l0 a1 a2_0 a2_1 a2_2 a3 a4 = some (r1, r2, r3, r4)) :
  Calls Try.prog 37 #[.slice A0 l0.length c0, .int .i64 a1, .agg #[.int .i64 a2_0, .int .i64 a2_1, .int .i64 a2_2], .int .i64 a3, .bool a4] w fun e w' => e = .returned (.tuple #[.agg #[.int .i64 r1, .int .i64 r2, .int .i64 r3], .bool r4]) ∧ Below w.heap.size w w' := by
 have hu65 := Try.underlying65
 have hu50 := Try.underlying50
 have hu88 := Try.underlying88
 have hu70 := Try.underlying70
 have HR0 := Aside0.mk hr0
 have HC0 := Aside0.mk hc0
 clear hr0 hc0
 have HB := Aside0.mk (Below.refl w.heap.size w)
 have H : (if a1 < 0 then (score_Of.j0 k l0 a1 a3 a4 true a2_1 a2_2) else (if a1 ≥ (l0.length : Int) then (score_Of.j0 k l0 a1 a3 a4 true a2_1 a2_2) else ((score_weights_valid.f a2_1 a2_2).bind fun t337 => (if t337 = true then (if a3 < 1 then (score_Of.j0 k l0 a1 a3 a4 true a2_1 a2_2) else (score_Of.j0 k l0 a1 a3 a4 (decide (a3 > 1048576)) a2_1 a2_2)) else (score_Of.j0 k l0 a1 a3 a4 true a2_1 a2_2))))) = some (r1, r2, r3, r4) := h
 clear h
 have HC6 := Aside0.mk H
 clear H
 go_enter Try.func37, Try.ntmps37
 go_upto_region 2 with (first | ((with_reducible refine gate_dst (N := 7) rfl ?_); (try (refine gate_guard (by rfl) ?_; dsimp only)); refine box_event ?hg (N := 7) ?hd (cs := #[.int .i64 a2_0, .int .i64 a2_1, .int .i64 a2_2]) (t := 65) ?hr ?_; (case hd => rfl); (case hg => rfl); (case hr => first | (go_simp; done) | (go_simp; rfl)); intro gb334 hg w7 hbox hb; have n0_ := Aside0.mk (below_step (by repeat (first | (with_reducible first | exact HB.out | apply below_alloc | apply pw_below_drewN | apply below_drew1) | exact HB.out)) hb); have n1_ := Aside0.mk (hbox); have n2_ := Aside0.mk ((by rw [hg]; exact (below_size (by repeat (first | (with_reducible first | exact HB.out | apply below_alloc | apply pw_below_drewN | apply below_drew1) | exact HB.out))) : w.heap.size ≤ gb334)); have n3_ := Aside0.mk ((by rw [hg]; exact (below_size (by repeat (first | (with_reducible first | exact HB.out | apply below_alloc | apply pw_below_drewN | apply below_drew1) | exact HB.out))) : w.heap.size ≤ gb334)); clear HB; have HB := n0_; have BK334 := n1_; have GW334 := n2_; have GE334 := n3_; clear n0_ n1_ n2_ n3_; clear hb hbox hg) | ((with_reducible refine gate_dst (N := 10) rfl ?_); (try (refine gate_guard (by rfl) ?_; dsimp only)); refine box_event ?hg (N := 10) ?hd (cs := #[.int .i64 0, .int .i64 0, .int .i64 0]) (t := 50) ?hr ?_; (case hd => rfl); (case hg => rfl); (case hr => first | (go_simp; done) | (go_simp; rfl)); intro gb335 hg w8 hbox hb; have n0_ := Aside0.mk (blk_below (g := gb334) (o := .cells #[.int .i64 a2_0, .int .i64 a2_1, .int .i64 a2_2] 65 (0, 0)) (by (with_reducible repeat (first | refine blk_drewN ?_ _ | refine blk_drew ?_ | refine blk_alloc ?_ _)); exact BK334.out) hb); have n1_ := Aside0.mk (below_step (by repeat (first | (with_reducible first | exact HB.out | apply below_alloc | apply pw_below_drewN | apply below_drew1 | refine below_set ?_ GE334.out) | exact HB.out)) hb); have n2_ := Aside0.mk (hbox); have n3_ := Aside0.mk ((by rw [hg]; exact (below_size (by repeat (first | (with_reducible first | exact HB.out | apply below_alloc | apply pw_below_drewN | apply below_drew1 | refine below_set ?_ GE334.out) | exact HB.out))) : w.heap.size ≤ gb335)); have n4_ := Aside0.mk ((by rw [hg]; exact (below_size (by repeat (first | (with_reducible first | exact HB.out | apply below_alloc | apply pw_below_drewN | apply below_drew1 | refine below_set ?_ GE334.out) | exact HB.out))) : w.heap.size ≤ gb335)); have n5_ := Aside0.mk ((by rw [hg]; exact Nat.ne_of_lt (blk_lt (g := gb334) (o := .cells #[.int .i64 a2_0, .int .i64 a2_1, .int .i64 a2_2] 65 (0, 0)) (by (with_reducible repeat (first | refine blk_drewN ?_ _ | refine blk_drew ?_ | refine blk_alloc ?_ _)); exact BK334.out)) : gb334 ≠ gb335)); have n6_ := Aside0.mk ((by rw [hg]; exact Nat.ne_of_gt (blk_lt (g := gb334) (o := .cells #[.int .i64 a2_0, .int .i64 a2_1, .int .i64 a2_2] 65 (0, 0)) (by (with_reducible repeat (first | refine blk_drewN ?_ _ | refine blk_drew ?_ | refine blk_alloc ?_ _)); exact BK334.out)) : gb335 ≠ gb334)); clear BK334; clear HB; have BK334 := n0_; have HB := n1_; have BK335 := n2_; have GW335 := n3_; have GE335 := n4_; have NB334_335 := n5_; have NB335_334 := n6_; clear n0_ n1_ n2_ n3_ n4_ n5_ n6_; clear hb hbox hg; have hnb9 := NB334_335.out; have hnc9 := NB335_334.out; have hcz10_0 : w8.cell? ⟨gb334, 0, none⟩ = some (.int .i64 a2_0) := (blk_cell BK334.out 0).trans rfl; have hcz10_1 : w8.cell? ⟨gb334, 1, none⟩ = some (.int .i64 a2_1) := (blk_cell BK334.out 1).trans rfl; have hcz10_2 : w8.cell? ⟨gb334, 2, none⟩ = some (.int .i64 a2_2) := (blk_cell BK334.out 2).trans rfl; have hfz10_0 := blk_frozen BK334.out 0; have hfz10_1 := blk_frozen BK334.out 1; have hfz10_2 := blk_frozen BK334.out 2) | ((with_reducible refine gate_dst (N := 12) rfl ?_); (try (refine gate_guard (by rfl) ?_; dsimp only)); refine box_event ?hg (N := 12) ?hd (cs := #[.int .i64 0, .int .i64 0]) (t := 88) ?hr ?_; (case hd => rfl); (case hg => rfl); (case hr => first | (go_simp; done) | (go_simp; rfl)); intro gb336 hg w11 hbox hb; have n0_ := Aside0.mk (blk_below (g := gb334) (o := .cells #[.int .i64 a2_0, .int .i64 a2_1, .int .i64 a2_2] 65 (0, 0)) (by (with_reducible repeat (first | refine blk_drewN ?_ _ | refine blk_drew ?_ | refine blk_alloc ?_ _)); exact BK334.out) hb); have n1_ := Aside0.mk (blk_below (g := gb335) (o := .cells #[.int .i64 0, .int .i64 0, .int .i64 0] 50 (0, 0)) (by (with_reducible repeat (first | refine blk_drewN ?_ _ | refine blk_drew ?_ | refine blk_alloc ?_ _)); exact BK335.out) hb); have n2_ := Aside0.mk (below_step (by repeat (first | (with_reducible first | exact HB.out | apply below_alloc | apply pw_below_drewN | apply below_drew1 | refine below_set ?_ GE334.out | refine below_set ?_ GE335.out) | exact HB.out)) hb); have n3_ := Aside0.mk (hbox); have n4_ := Aside0.mk ((by rw [hg]; exact (below_size (by repeat (first | (with_reducible first | exact HB.out | apply below_alloc | apply pw_below_drewN | apply below_drew1 | refine below_set ?_ GE334.out | refine below_set ?_ GE335.out) | exact HB.out))) : w.heap.size ≤ gb336)); have n5_ := Aside0.mk ((by rw [hg]; exact (below_size (by repeat (first | (with_reducible first | exact HB.out | apply below_alloc | apply pw_below_drewN | apply below_drew1 | refine below_set ?_ GE334.out | refine below_set ?_ GE335.out) | exact HB.out))) : w.heap.size ≤ gb336)); have n6_ := Aside0.mk ((by rw [hg]; exact Nat.ne_of_lt (blk_lt (g := gb334) (o := .cells #[.int .i64 a2_0, .int .i64 a2_1, .int .i64 a2_2] 65 (0, 0)) (by (with_reducible repeat (first | refine blk_drewN ?_ _ | refine blk_drew ?_ | refine blk_alloc ?_ _)); exact BK334.out)) : gb334 ≠ gb336)); have n7_ := Aside0.mk ((by rw [hg]; exact Nat.ne_of_gt (blk_lt (g := gb334) (o := .cells #[.int .i64 a2_0, .int .i64 a2_1, .int .i64 a2_2] 65 (0, 0)) (by (with_reducible repeat (first | refine blk_drewN ?_ _ | refine blk_drew ?_ | refine blk_alloc ?_ _)); exact BK334.out)) : gb336 ≠ gb334)); have n8_ := Aside0.mk ((by rw [hg]; exact Nat.ne_of_lt (blk_lt (g := gb335) (o := .cells #[.int .i64 0, .int .i64 0, .int .i64 0] 50 (0, 0)) (by (with_reducible repeat (first | refine blk_drewN ?_ _ | refine blk_drew ?_ | refine blk_alloc ?_ _)); exact BK335.out)) : gb335 ≠ gb336)); have n9_ := Aside0.mk ((by rw [hg]; exact Nat.ne_of_gt (blk_lt (g := gb335) (o := .cells #[.int .i64 0, .int .i64 0, .int .i64 0] 50 (0, 0)) (by (with_reducible repeat (first | refine blk_drewN ?_ _ | refine blk_drew ?_ | refine blk_alloc ?_ _)); exact BK335.out)) : gb336 ≠ gb335)); clear BK334; clear BK335; clear HB; have BK334 := n0_; have BK335 := n1_; have HB := n2_; have BK336 := n3_; have GW336 := n4_; have GE336 := n5_; have NB334_336 := n6_; have NB336_334 := n7_; have NB335_336 := n8_; have NB336_335 := n9_; clear n0_ n1_ n2_ n3_ n4_ n5_ n6_ n7_ n8_ n9_; clear hb hbox hg; have hnb12 := NB336_334.out; have hnc12 := NB334_336.out; have hnb13 := NB336_335.out; have hnc13 := NB335_336.out; have hcz14_0 : w11.cell? ⟨gb336, 0, none⟩ = some (.int .i64 0) := (blk_cell BK336.out 0).trans rfl; have hcz14_1 : w11.cell? ⟨gb336, 1, none⟩ = some (.int .i64 0) := (blk_cell BK336.out 1).trans rfl; have hfz14_0 := blk_frozen BK336.out 0; have hfz14_1 := blk_frozen BK336.out 1))
 (try simp only [Act.put, List.setIfInBounds_toArray, List.set_cons_zero, List.set_cons_succ])
 go_cut [44] (fun v44 wc => ∃ (kq : Nat) (x44_5 : Bool), v44 = .bool x44_5 ∧ Aside0 (score_Of.j0 kq l0 a1 a3 a4 x44_5 a2_1 a2_2 = some (r1, r2, r3, r4)) ∧ Aside0 (kq ≤ k) ∧ Aside0 (wc.heap[gb334]? = some (.cells #[.int .i64 a2_0, .int .i64 a2_1, .int .i64 a2_2] 65 (0, 0))) ∧ Aside0 (wc.heap[gb335]? = some (.cells #[.int .i64 0, .int .i64 0, .int .i64 0] 50 (0, 0))) ∧ Aside0 (wc.heap[gb336]? = some (.cells #[.int .i64 a2_1, .int .i64 a2_2] 88 (0, 0))) ∧ Aside0 (Below w.heap.size w wc))
 case first =>
  have H := HC6.out
  clear HC6
  by_cases c15 : a1 < 0
  ·rw [if_pos c15] at H
   have c15b0 : decide (a1 < 0) = true := decide_eq_true c15
   clear c15
   (first | rw [c15b0] | (simp only [i64_w, i32_w]; rw [c15b0]) | skip)
   have H' := Aside0.mk H
   clear H
   go_wp2
   go_meet
   case rel => exact ⟨_, (true), (by first | rfl | (simp; done) | (simp [*]; done) | exact congrArg (Value.int _) (by unfold wrap64; omega)), H', ⟨by first | omega | exact Nat.le_refl _⟩, ⟨by (with_reducible repeat (first | refine blk_drewN ?_ _ | refine blk_drew ?_ | refine blk_alloc ?_ _)); refine blk_far ?_ NB334_336.out _; (with_reducible repeat (first | refine blk_drewN ?_ _ | refine blk_drew ?_ | refine blk_alloc ?_ _)); refine blk_far ?_ NB334_336.out _; (with_reducible repeat (first | refine blk_drewN ?_ _ | refine blk_drew ?_ | refine blk_alloc ?_ _)); exact BK334.out⟩, ⟨by (with_reducible repeat (first | refine blk_drewN ?_ _ | refine blk_drew ?_ | refine blk_alloc ?_ _)); refine blk_far ?_ NB335_336.out _; (with_reducible repeat (first | refine blk_drewN ?_ _ | refine blk_drew ?_ | refine blk_alloc ?_ _)); refine blk_far ?_ NB335_336.out _; (with_reducible repeat (first | refine blk_drewN ?_ _ | refine blk_drew ?_ | refine blk_alloc ?_ _)); exact BK335.out⟩, ⟨by (with_reducible repeat (first | refine blk_drewN ?_ _ | refine blk_drew ?_ | refine blk_alloc ?_ _)); refine blk_put (cs := #[.int .i64 a2_1, .int .i64 0]) ?_ 1 _ rfl; (with_reducible repeat (first | refine blk_drewN ?_ _ | refine blk_drew ?_ | refine blk_alloc ?_ _)); refine blk_put (cs := #[.int .i64 0, .int .i64 0]) ?_ 0 _ rfl; (with_reducible repeat (first | refine blk_drewN ?_ _ | refine blk_drew ?_ | refine blk_alloc ?_ _)); exact BK336.out⟩, ⟨by repeat (first | (with_reducible first | exact HB.out | apply below_alloc | apply pw_below_drewN | apply below_drew1 | refine below_set ?_ GE334.out | refine below_set ?_ GE335.out | refine below_set ?_ GE336.out) | exact HB.out)⟩⟩
  ·rw [if_neg c15] at H
   have c15b0 : decide (a1 < 0) = false := decide_eq_false c15
   clear c15
   (first | rw [c15b0] | (simp only [i64_w, i32_w]; rw [c15b0]) | skip)
   by_cases c16 : a1 ≥ (l0.length : Int)
   ·rw [if_pos c16] at H
    have c16b0 : decide ((l0.length : Int) ≤ a1) = true := decide_eq_true c16
    clear c16
    have H' := Aside0.mk H
    clear H
    go_wp2
    go_meet
    case rel => exact ⟨_, (true), (by first | rfl | (simp; done) | (simp [*]; done) | exact congrArg (Value.int _) (by unfold wrap64; omega)), H', ⟨by first | omega | exact Nat.le_refl _⟩, ⟨by (with_reducible repeat (first | refine blk_drewN ?_ _ | refine blk_drew ?_ | refine blk_alloc ?_ _)); refine blk_far ?_ NB334_336.out _; (with_reducible repeat (first | refine blk_drewN ?_ _ | refine blk_drew ?_ | refine blk_alloc ?_ _)); refine blk_far ?_ NB334_336.out _; (with_reducible repeat (first | refine blk_drewN ?_ _ | refine blk_drew ?_ | refine blk_alloc ?_ _)); exact BK334.out⟩, ⟨by (with_reducible repeat (first | refine blk_drewN ?_ _ | refine blk_drew ?_ | refine blk_alloc ?_ _)); refine blk_far ?_ NB335_336.out _; (with_reducible repeat (first | refine blk_drewN ?_ _ | refine blk_drew ?_ | refine blk_alloc ?_ _)); refine blk_far ?_ NB335_336.out _; (with_reducible repeat (first | refine blk_drewN ?_ _ | refine blk_drew ?_ | refine blk_alloc ?_ _)); exact BK335.out⟩, ⟨by (with_reducible repeat (first | refine blk_drewN ?_ _ | refine blk_drew ?_ | refine blk_alloc ?_ _)); refine blk_put (cs := #[.int .i64 a2_1, .int .i64 0]) ?_ 1 _ rfl; (with_reducible repeat (first | refine blk_drewN ?_ _ | refine blk_drew ?_ | refine blk_alloc ?_ _)); refine blk_put (cs := #[.int .i64 0, .int .i64 0]) ?_ 0 _ rfl; (with_reducible repeat (first | refine blk_drewN ?_ _ | refine blk_drew ?_ | refine blk_alloc ?_ _)); exact BK336.out⟩, ⟨by repeat (first | (with_reducible first | exact HB.out | apply below_alloc | apply pw_below_drewN | apply below_drew1 | refine below_set ?_ GE334.out | refine below_set ?_ GE335.out | refine below_set ?_ GE336.out) | exact HB.out)⟩⟩
   ·rw [if_neg c16] at H
    have c16b0 : decide ((l0.length : Int) ≤ a1) = false := decide_eq_false c16
    clear c16
    replace H := Option.bind_eq_some_iff.mp H
    obtain ⟨t337, A170, H⟩ := H
    replace H : (if t337 = true then (if a3 < 1 then (score_Of.j0 k l0 a1 a3 a4 true a2_1 a2_2) else (score_Of.j0 k l0 a1 a3 a4 (decide (a3 > 1048576)) a2_1 a2_2)) else (score_Of.j0 k l0 a1 a3 a4 true a2_1 a2_2)) = some (r1, r2, r3, r4) := H
    have A17 := Aside0.mk A170
    clear A170
    by_cases c18 : t337 = true
    ·subst c18
     have H1 : (if a3 < 1 then (score_Of.j0 k l0 a1 a3 a4 true a2_1 a2_2) else (score_Of.j0 k l0 a1 a3 a4 (decide (a3 > 1048576)) a2_1 a2_2)) = some (r1, r2, r3, r4) := by rw [if_pos rfl] at H; exact H
     clear H
     have H := H1
     clear H1
     by_cases c19 : a3 < 1
     ·rw [if_pos c19] at H
      have c19b0 : decide (a3 < 1) = true := decide_eq_true c19
      clear c19
      have H' := Aside0.mk H
      clear H
      have hnb20 := NB336_334.out
      have hnc20 := NB334_336.out
      have hnb21 := NB336_335.out
      have hnc21 := NB335_336.out
      have hcz22_0 : w11.cell? ⟨gb336, 0, none⟩ = some (.int .i64 0) := (blk_cell BK336.out 0).trans rfl
      have hcz22_1 : w11.cell? ⟨gb336, 1, none⟩ = some (.int .i64 0) := (blk_cell BK336.out 1).trans rfl
      have hfz22_0 := blk_frozen BK336.out 0
      have hfz22_1 := blk_frozen BK336.out 1
      go_wp2_with (first | (go_at_call 43; (with_reducible refine (score_weights_valid.calls a2_1 a2_2 true _ A17.out).mono ?_); rintro e w23 ⟨rfl, hb⟩; have n0_ := Aside0.mk (blk_below (g := gb334) (o := .cells #[.int .i64 a2_0, .int .i64 a2_1, .int .i64 a2_2] 65 (0, 0)) (by (with_reducible repeat (first | refine blk_drewN ?_ _ | refine blk_drew ?_ | refine blk_alloc ?_ _)); refine blk_far ?_ NB334_336.out _; (with_reducible repeat (first | refine blk_drewN ?_ _ | refine blk_drew ?_ | refine blk_alloc ?_ _)); refine blk_far ?_ NB334_336.out _; (with_reducible repeat (first | refine blk_drewN ?_ _ | refine blk_drew ?_ | refine blk_alloc ?_ _)); exact BK334.out) hb); have n1_ := Aside0.mk (blk_below (g := gb335) (o := .cells #[.int .i64 0, .int .i64 0, .int .i64 0] 50 (0, 0)) (by (with_reducible repeat (first | refine blk_drewN ?_ _ | refine blk_drew ?_ | refine blk_alloc ?_ _)); refine blk_far ?_ NB335_336.out _; (with_reducible repeat (first | refine blk_drewN ?_ _ | refine blk_drew ?_ | refine blk_alloc ?_ _)); refine blk_far ?_ NB335_336.out _; (with_reducible repeat (first | refine blk_drewN ?_ _ | refine blk_drew ?_ | refine blk_alloc ?_ _)); exact BK335.out) hb); have n2_ := Aside0.mk (blk_below (g := gb336) (o := .cells #[.int .i64 a2_1, .int .i64 a2_2] 88 (0, 0)) (by (with_reducible repeat (first | refine blk_drewN ?_ _ | refine blk_drew ?_ | refine blk_alloc ?_ _)); refine blk_put (cs := #[.int .i64 a2_1, .int .i64 0]) ?_ 1 _ rfl; (with_reducible repeat (first | refine blk_drewN ?_ _ | refine blk_drew ?_ | refine blk_alloc ?_ _)); refine blk_put (cs := #[.int .i64 0, .int .i64 0]) ?_ 0 _ rfl; (with_reducible repeat (first | refine blk_drewN ?_ _ | refine blk_drew ?_ | refine blk_alloc ?_ _)); exact BK336.out) hb); have n3_ := Aside0.mk (below_step (by repeat (first | (with_reducible first | exact HB.out | apply below_alloc | apply pw_below_drewN | apply below_drew1 | refine below_set ?_ GE334.out | refine below_set ?_ GE335.out | refine below_set ?_ GE336.out) | exact HB.out)) hb); clear BK334; clear BK335; clear BK336; clear HB; have BK334 := n0_; have BK335 := n1_; have BK336 := n2_; have HB := n3_; clear n0_ n1_ n2_ n3_; (try clear hb); (try clear hb2); (try clear hk); (try clear hi)))
      go_meet
      case rel => exact ⟨_, (true), (by first | rfl | (simp; done) | (simp [*]; done) | exact congrArg (Value.int _) (by unfold wrap64; omega)), H', ⟨by first | omega | exact Nat.le_refl _⟩, ⟨by (with_reducible repeat (first | refine blk_drewN ?_ _ | refine blk_drew ?_ | refine blk_alloc ?_ _)); exact BK334.out⟩, ⟨by (with_reducible repeat (first | refine blk_drewN ?_ _ | refine blk_drew ?_ | refine blk_alloc ?_ _)); exact BK335.out⟩, ⟨by (with_reducible repeat (first | refine blk_drewN ?_ _ | refine blk_drew ?_ | refine blk_alloc ?_ _)); exact BK336.out⟩, ⟨by repeat (first | (with_reducible first | exact HB.out | apply below_alloc | apply pw_below_drewN | apply below_drew1 | refine below_set ?_ GE334.out | refine below_set ?_ GE335.out | refine below_set ?_ GE336.out) | exact HB.out)⟩⟩
     ·rw [if_neg c19] at H
      have c19b0 : decide (a3 < 1) = false := decide_eq_false c19
      clear c19
      have H' := Aside0.mk H
      clear H
      have hnb24 := NB336_334.out
      have hnc24 := NB334_336.out
      have hnb25 := NB336_335.out
      have hnc25 := NB335_336.out
      have hcz26_0 : w11.cell? ⟨gb336, 0, none⟩ = some (.int .i64 0) := (blk_cell BK336.out 0).trans rfl
      have hcz26_1 : w11.cell? ⟨gb336, 1, none⟩ = some (.int .i64 0) := (blk_cell BK336.out 1).trans rfl
      have hfz26_0 := blk_frozen BK336.out 0
      have hfz26_1 := blk_frozen BK336.out 1
      go_wp2_with (first | (go_at_call 43; (with_reducible refine (score_weights_valid.calls a2_1 a2_2 true _ A17.out).mono ?_); rintro e w27 ⟨rfl, hb⟩; have n0_ := Aside0.mk (blk_below (g := gb334) (o := .cells #[.int .i64 a2_0, .int .i64 a2_1, .int .i64 a2_2] 65 (0, 0)) (by (with_reducible repeat (first | refine blk_drewN ?_ _ | refine blk_drew ?_ | refine blk_alloc ?_ _)); refine blk_far ?_ NB334_336.out _; (with_reducible repeat (first | refine blk_drewN ?_ _ | refine blk_drew ?_ | refine blk_alloc ?_ _)); refine blk_far ?_ NB334_336.out _; (with_reducible repeat (first | refine blk_drewN ?_ _ | refine blk_drew ?_ | refine blk_alloc ?_ _)); exact BK334.out) hb); have n1_ := Aside0.mk (blk_below (g := gb335) (o := .cells #[.int .i64 0, .int .i64 0, .int .i64 0] 50 (0, 0)) (by (with_reducible repeat (first | refine blk_drewN ?_ _ | refine blk_drew ?_ | refine blk_alloc ?_ _)); refine blk_far ?_ NB335_336.out _; (with_reducible repeat (first | refine blk_drewN ?_ _ | refine blk_drew ?_ | refine blk_alloc ?_ _)); refine blk_far ?_ NB335_336.out _; (with_reducible repeat (first | refine blk_drewN ?_ _ | refine blk_drew ?_ | refine blk_alloc ?_ _)); exact BK335.out) hb); have n2_ := Aside0.mk (blk_below (g := gb336) (o := .cells #[.int .i64 a2_1, .int .i64 a2_2] 88 (0, 0)) (by (with_reducible repeat (first | refine blk_drewN ?_ _ | refine blk_drew ?_ | refine blk_alloc ?_ _)); refine blk_put (cs := #[.int .i64 a2_1, .int .i64 0]) ?_ 1 _ rfl; (with_reducible repeat (first | refine blk_drewN ?_ _ | refine blk_drew ?_ | refine blk_alloc ?_ _)); refine blk_put (cs := #[.int .i64 0, .int .i64 0]) ?_ 0 _ rfl; (with_reducible repeat (first | refine blk_drewN ?_ _ | refine blk_drew ?_ | refine blk_alloc ?_ _)); exact BK336.out) hb); have n3_ := Aside0.mk (below_step (by repeat (first | (with_reducible first | exact HB.out | apply below_alloc | apply pw_below_drewN | apply below_drew1 | refine below_set ?_ GE334.out | refine below_set ?_ GE335.out | refine below_set ?_ GE336.out) | exact HB.out)) hb); clear BK334; clear BK335; clear BK336; clear HB; have BK334 := n0_; have BK335 := n1_; have BK336 := n2_; have HB := n3_; clear n0_ n1_ n2_ n3_; (try clear hb); (try clear hb2); (try clear hk); (try clear hi)))
      go_meet
      case rel => exact ⟨_, (decide (a3 > 1048576)), (by first | rfl | (simp; done) | (simp [*]; done) | exact congrArg (Value.int _) (by unfold wrap64; omega)), H', ⟨by first | omega | exact Nat.le_refl _⟩, ⟨by (with_reducible repeat (first | refine blk_drewN ?_ _ | refine blk_drew ?_ | refine blk_alloc ?_ _)); exact BK334.out⟩, ⟨by (with_reducible repeat (first | refine blk_drewN ?_ _ | refine blk_drew ?_ | refine blk_alloc ?_ _)); exact BK335.out⟩, ⟨by (with_reducible repeat (first | refine blk_drewN ?_ _ | refine blk_drew ?_ | refine blk_alloc ?_ _)); exact BK336.out⟩, ⟨by repeat (first | (with_reducible first | exact HB.out | apply below_alloc | apply pw_below_drewN | apply below_drew1 | refine below_set ?_ GE334.out | refine below_set ?_ GE335.out | refine below_set ?_ GE336.out) | exact HB.out)⟩⟩
    ·replace c18 := Bool.eq_false_iff.mpr c18
     subst c18
     have H1 : (score_Of.j0 k l0 a1 a3 a4 true a2_1 a2_2) = some (r1, r2, r3, r4) := by rw [if_neg (show ¬ (false = true) by decide)] at H; exact H
     clear H
     have H := H1
     clear H1
     have H' := Aside0.mk H
     clear H
     have hnb28 := NB336_334.out
     have hnc28 := NB334_336.out
     have hnb29 := NB336_335.out
     have hnc29 := NB335_336.out
     have hcz30_0 : w11.cell? ⟨gb336, 0, none⟩ = some (.int .i64 0) := (blk_cell BK336.out 0).trans rfl
     have hcz30_1 : w11.cell? ⟨gb336, 1, none⟩ = some (.int .i64 0) := (blk_cell BK336.out 1).trans rfl
     have hfz30_0 := blk_frozen BK336.out 0
     have hfz30_1 := blk_frozen BK336.out 1
     go_wp2_with (first | (go_at_call 43; (with_reducible refine (score_weights_valid.calls a2_1 a2_2 false _ A17.out).mono ?_); rintro e w31 ⟨rfl, hb⟩; have n0_ := Aside0.mk (blk_below (g := gb334) (o := .cells #[.int .i64 a2_0, .int .i64 a2_1, .int .i64 a2_2] 65 (0, 0)) (by (with_reducible repeat (first | refine blk_drewN ?_ _ | refine blk_drew ?_ | refine blk_alloc ?_ _)); refine blk_far ?_ NB334_336.out _; (with_reducible repeat (first | refine blk_drewN ?_ _ | refine blk_drew ?_ | refine blk_alloc ?_ _)); refine blk_far ?_ NB334_336.out _; (with_reducible repeat (first | refine blk_drewN ?_ _ | refine blk_drew ?_ | refine blk_alloc ?_ _)); exact BK334.out) hb); have n1_ := Aside0.mk (blk_below (g := gb335) (o := .cells #[.int .i64 0, .int .i64 0, .int .i64 0] 50 (0, 0)) (by (with_reducible repeat (first | refine blk_drewN ?_ _ | refine blk_drew ?_ | refine blk_alloc ?_ _)); refine blk_far ?_ NB335_336.out _; (with_reducible repeat (first | refine blk_drewN ?_ _ | refine blk_drew ?_ | refine blk_alloc ?_ _)); refine blk_far ?_ NB335_336.out _; (with_reducible repeat (first | refine blk_drewN ?_ _ | refine blk_drew ?_ | refine blk_alloc ?_ _)); exact BK335.out) hb); have n2_ := Aside0.mk (blk_below (g := gb336) (o := .cells #[.int .i64 a2_1, .int .i64 a2_2] 88 (0, 0)) (by (with_reducible repeat (first | refine blk_drewN ?_ _ | refine blk_drew ?_ | refine blk_alloc ?_ _)); refine blk_put (cs := #[.int .i64 a2_1, .int .i64 0]) ?_ 1 _ rfl; (with_reducible repeat (first | refine blk_drewN ?_ _ | refine blk_drew ?_ | refine blk_alloc ?_ _)); refine blk_put (cs := #[.int .i64 0, .int .i64 0]) ?_ 0 _ rfl; (with_reducible repeat (first | refine blk_drewN ?_ _ | refine blk_drew ?_ | refine blk_alloc ?_ _)); exact BK336.out) hb); have n3_ := Aside0.mk (below_step (by repeat (first | (with_reducible first | exact HB.out | apply below_alloc | apply pw_below_drewN | apply below_drew1 | refine below_set ?_ GE334.out | refine below_set ?_ GE335.out | refine below_set ?_ GE336.out) | exact HB.out)) hb); clear BK334; clear BK335; clear BK336; clear HB; have BK334 := n0_; have BK335 := n1_; have BK336 := n2_; have HB := n3_; clear n0_ n1_ n2_ n3_; (try clear hb); (try clear hb2); (try clear hk); (try clear hi)))
     go_meet
     case rel => exact ⟨_, (true), (by first | rfl | (simp; done) | (simp [*]; done) | exact congrArg (Value.int _) (by unfold wrap64; omega)), H', ⟨by first | omega | exact Nat.le_refl _⟩, ⟨by (with_reducible repeat (first | refine blk_drewN ?_ _ | refine blk_drew ?_ | refine blk_alloc ?_ _)); exact BK334.out⟩, ⟨by (with_reducible repeat (first | refine blk_drewN ?_ _ | refine blk_drew ?_ | refine blk_alloc ?_ _)); exact BK335.out⟩, ⟨by (with_reducible repeat (first | refine blk_drewN ?_ _ | refine blk_drew ?_ | refine blk_alloc ?_ _)); exact BK336.out⟩, ⟨by repeat (first | (with_reducible first | exact HB.out | apply below_alloc | apply pw_below_drewN | apply below_drew1 | refine below_set ?_ GE334.out | refine below_set ?_ GE335.out | refine below_set ?_ GE336.out) | exact HB.out)⟩⟩
 case rest =>
  clear HC6
  try clear c1
  try clear c2
  try clear p2
  try clear c3
  try clear p6
  try clear c9
  try clear c12
  try clear c13
  try clear c15
  try clear c15b0
  try clear c16
  try clear c16b0
  try clear c18
  try clear c19
  try clear c19b0
  try clear c20
  try clear c21
  try clear c24
  try clear c25
  try clear c28
  try clear c29
  try clear hcz10_0
  try clear hcz10_1
  try clear hcz10_2
  try clear hcz14_0
  try clear hcz14_1
  try clear hcz22_0
  try clear hcz22_1
  try clear hcz26_0
  try clear hcz26_1
  try clear hcz30_0
  try clear hcz30_1
  try clear hfz10_0
  try clear hfz10_1
  try clear hfz10_2
  try clear hfz14_0
  try clear hfz14_1
  try clear hfz22_0
  try clear hfz22_1
  try clear hfz26_0
  try clear hfz26_1
  try clear hfz30_0
  try clear hfz30_1
  obtain ⟨kq, x44_5, rfl, HA, HJ5, BK334, BK335, BK336, HB⟩ := hcut
  cases kq with
  | zero => exact absurd HA.out (by simp [score_Of.j0])
  | succ kj5 =>
   have H := HA.out
   clear HA
   simp only [score_Of.j0] at H
   by_cases c32 : x44_5 = true
   ·subst c32
    have H1 : (some (0, 0, 0, false)) = some (r1, r2, r3, r4) := by rw [if_pos rfl] at H; exact H
    clear H
    have H := H1
    clear H1
    simp only [Option.some.injEq, Prod.mk.injEq] at H
    obtain ⟨rfl, rfl, rfl, rfl⟩ := H
    have hnb33 := NB335_334.out
    have hnc33 := NB334_335.out
    have hnb34 := NB335_336.out
    have hnc34 := NB336_335.out
    have hcz35_0 : wc.cell? ⟨gb335, 0, none⟩ = some (.int .i64 0) := (blk_cell BK335.out 0).trans rfl
    have hcz35_1 : wc.cell? ⟨gb335, 1, none⟩ = some (.int .i64 0) := (blk_cell BK335.out 1).trans rfl
    have hcz35_2 : wc.cell? ⟨gb335, 2, none⟩ = some (.int .i64 0) := (blk_cell BK335.out 2).trans rfl
    have hfz35_0 := blk_frozen BK335.out 0
    have hfz35_1 := blk_frozen BK335.out 1
    have hfz35_2 := blk_frozen BK335.out 2
    go_wp2
    refine bodyPost_ret (results_ct rfl _ _ gb335 50 #[.int .i64 0, .int .i64 0, .int .i64 0] (0, 0) _ rfl (by (with_reducible repeat (first | refine blk_drewN ?_ _ | refine blk_drew ?_ | refine blk_alloc ?_ _)); refine blk_put (cs := #[.int .i64 0, .int .i64 0, .int .i64 0]) ?_ 2 _ rfl; (with_reducible repeat (first | refine blk_drewN ?_ _ | refine blk_drew ?_ | refine blk_alloc ?_ _)); refine blk_put (cs := #[.int .i64 0, .int .i64 0, .int .i64 0]) ?_ 1 _ rfl; (with_reducible repeat (first | refine blk_drewN ?_ _ | refine blk_drew ?_ | refine blk_alloc ?_ _)); refine blk_put (cs := #[.int .i64 0, .int .i64 0, .int .i64 0]) ?_ 0 _ rfl; (with_reducible repeat (first | refine blk_drewN ?_ _ | refine blk_drew ?_ | refine blk_alloc ?_ _)); exact BK335.out) Try.underlying50 rfl (by kernel_rfl)) rfl ?_
    exact ⟨by first | rfl | (simp [errW_none, errW_some] <;> rfl) | (simp [*, errW_none, errW_some] <;> rfl), by repeat (first | (with_reducible first | exact HB.out | apply below_alloc | apply pw_below_drewN | apply below_drew1 | refine below_set ?_ GE334.out | refine below_set ?_ GE335.out | refine below_set ?_ GE336.out) | exact HB.out)⟩
   ·replace c32 := Bool.eq_false_iff.mpr c32
    subst c32
    have H1 : (if 0 ≤ (wrap64 (a1 + 1)) then (if (wrap64 (a1 + 1)) ≤ (l0.length : Int) then ((some (l0.take ((wrap64 (a1 + 1)) : Int).toNat : List (S70))).bind fun y338 => (score_Of.l0 kj5 l0 a1 a3 a4 y338 (y338.length : Int) 0 a2_1 a2_2)) else (none)) else (none)) = some (r1, r2, r3, r4) := by rw [if_neg (show ¬ (false = true) by decide)] at H; exact H
    clear H
    have H := H1
    clear H1
    obtain ⟨ji36, hji36⟩ : ∃ j_ : Int, (wrap64 (a1 + 1)) = j_ := ⟨_, rfl⟩
    replace H : (if 0 ≤ (ji36) then (if (ji36) ≤ (l0.length : Int) then ((some (l0.take ((ji36) : Int).toNat : List (S70))).bind fun y338 => (score_Of.l0 kj5 l0 a1 a3 a4 y338 (y338.length : Int) 0 a2_1 a2_2)) else (none)) else (none)) = some (r1, r2, r3, r4) := by first | (rw [hji36] at H; exact H) | (simp only [hji36] at H ⊢; exact H)
    have hji36w : (IntKind.i64.wrap (a1 + 1)) = ji36 := (i64_w _).trans hji36
    by_cases c37 : 0 ≤ (ji36)
    ·rw [if_pos c37] at H
     have c37b0 := eq_true c37
     have c37b1 : decide (0 ≤ (ji36)) = true := decide_eq_true c37
     clear c37
     by_cases c38 : (ji36) ≤ (l0.length : Int)
     ·rw [if_pos c38] at H
      have c38b0 := eq_true c38
      have c38b1 : decide ((ji36) ≤ (l0.length : Int)) = true := decide_eq_true c38
      clear c38
      obtain ⟨y338, hy338⟩ : ∃ y_ : List (S70), y_ = (l0.take ((ji36) : Int).toNat) := ⟨_, rfl⟩
      replace H : (score_Of.l0 kj5 l0 a1 a3 a4 y338 (y338.length : Int) 0 a2_1 a2_2) = some (r1, r2, r3, r4) := by first | (rw [hy338]; with_reducible exact H) | (have H2_ := (Option.bind_some _ _).symm.trans H; rw [hy338]; with_reducible exact H2_) | (have H2_ := (Option.bind_some _ _).symm.trans H; with_reducible exact H2_) | with_reducible exact H | (rw [hy338]; exact H) | exact H
      have Ny338 := Aside0.mk hy338
      clear hy338
      have H' := Aside0.mk H
      clear H
      have q39 : ((ji36) : Int) ≤ ((l0.length : Int) : Int) := of_decide_eq_true (by first | (with_reducible assumption) | assumption)
      obtain ⟨i039, hi039, _, hsz39, _⟩ := info_parts info70
      have hroom39 : l0.length ≤ c0 := HC0.out
      have hC39 : Kd.C k70 _ A0 l0.length l0 := HR0.out
      have hcut39 := cut_to (P := Try.prog) 62 70 .i64 Try.underlying62 hi039 A0 l0.length c0 (ji36) (of_decide_eq_true (by first | (with_reducible assumption) | assumption)) q39 hroom39
      have hr39 := Kd.C_take (m := ((ji36) : Int).toNat) hC39 (by omega)
      have hy39 : y338.length = ((ji36) : Int).toNat := (by rw [Ny338.out, List.length_take]; omega)
      rw [← Ny338.out] at hr39
      rw [← hy39] at hcut39
      have HR341 := Aside0.mk hr39
      have HC341 := Aside0.mk (show y338.length ≤ c0 from by omega)
      clear hr39 hC39 hroom39 hi039 hsz39
      have KY39 := Aside0.mk hy39
      clear hy39
      replace q39 := eq_true q39
      go_wp2
      go_loopg [51] kj5 (fun kq v51 w' => ∃ (x51_2 : Int) (x336000_2 : Int) (x336001_2 : Int) (x336002_2 : Int), v51 = .int .i64 x51_2 ∧ Aside0 (score_Of.l0 kq l0 a1 a3 a4 y338 (y338.length : Int) x51_2 a2_1 a2_2 = some (r1, r2, r3, r4)) ∧ Aside0 (kq ≤ kj5) ∧ Aside0 (w'.heap[gb334]? = some (.cells #[.int .i64 a2_0, .int .i64 a2_1, .int .i64 a2_2] 65 (0, 0))) ∧ Aside0 (w'.heap[gb335]? = some (.cells #[.int .i64 x336000_2, .int .i64 x336001_2, .int .i64 x336002_2] 50 (0, 0))) ∧ Aside0 (w'.heap[gb336]? = some (.cells #[.int .i64 a2_1, .int .i64 a2_2] 88 (0, 0))) ∧ Aside0 (Below w.heap.size w w'))
      case atStart => exact ⟨(0), (0), (0), (0), (by first | rfl | (simp; done) | (simp [*]; done) | exact congrArg (Value.int _) (by unfold wrap64; omega)), H', ⟨Nat.le_refl _⟩, ⟨by (with_reducible repeat (first | refine blk_drewN ?_ _ | refine blk_drew ?_ | refine blk_alloc ?_ _)); exact BK334.out⟩, ⟨by (with_reducible repeat (first | refine blk_drewN ?_ _ | refine blk_drew ?_ | refine blk_alloc ?_ _)); exact BK335.out⟩, ⟨by (with_reducible repeat (first | refine blk_drewN ?_ _ | refine blk_drew ?_ | refine blk_alloc ?_ _)); exact BK336.out⟩, ⟨by repeat (first | (with_reducible first | exact HB.out | apply below_alloc | apply pw_below_drewN | apply below_drew1 | refine below_set ?_ GE334.out | refine below_set ?_ GE335.out | refine below_set ?_ GE336.out) | exact HB.out)⟩⟩
      case round =>
       clear H'
       try clear c1
       try clear c2
       try clear p2
       try clear c3
       try clear q3
       try clear p6
       try clear c9
       try clear c12
       try clear c13
       try clear c15
       try clear c15b0
       try clear c16
       try clear c16b0
       try clear c18
       try clear c19
       try clear c19b0
       try clear c20
       try clear c21
       try clear c24
       try clear c25
       try clear c28
       try clear c29
       try clear c32
       try clear c33
       try clear c34
       try clear c37
       try clear c37b0
       try clear c37b1
       try clear c38
       try clear c38b0
       try clear c38b1
       try clear q39
       try clear hcz10_0
       try clear hcz10_1
       try clear hcz10_2
       try clear hcz14_0
       try clear hcz14_1
       try clear hcz22_0
       try clear hcz22_1
       try clear hcz26_0
       try clear hcz26_1
       try clear hcz30_0
       try clear hcz30_1
       try clear hcz35_0
       try clear hcz35_1
       try clear hcz35_2
       try clear hfz10_0
       try clear hfz10_1
       try clear hfz10_2
       try clear hfz14_0
       try clear hfz14_1
       try clear hfz22_0
       try clear hfz22_1
       try clear hfz26_0
       try clear hfz26_1
       try clear hfz30_0
       try clear hfz30_1
       try clear hfz35_0
       try clear hfz35_1
       try clear hfz35_2
       try clear p2
       try clear p6
       try clear q39
       obtain ⟨x51_2, x336000_2, x336001_2, x336002_2, rfl, HA, HK2, BK334, BK335, BK336, HB⟩ := hrel
       cases gk with
       | zero => exact absurd HA.out (by simp [score_Of.l0])
       | succ k2 =>
        have H := HA.out
        clear HA
        simp only [score_Of.l0] at H
        by_cases c40 : x51_2 < (y338.length : Int)
        ·rw [if_pos c40] at H
         have c40b0 : decide (x51_2 < (y338.length : Int)) = true := decide_eq_true c40
         clear c40
         by_cases c41 : 0 ≤ x51_2
         ·rw [if_pos c41] at H
          have c41b0 : decide (0 ≤ x51_2) = true := decide_eq_true c41
          clear c41
          by_cases c42 : x51_2 < (y338.length : Int)
          ·rw [if_pos c42] at H
           have c42b0 : decide (x51_2 < (y338.length : Int)) = true := decide_eq_true c42
           clear c42
           by_cases c43 : ((rd_T70 y338 x51_2).f1) < 0
           ·rw [if_pos c43] at H
            have c43b0 : decide (((rd_T70 y338 x51_2).f1) < 0) = true := decide_eq_true c43
            clear c43
            simp only [Option.some.injEq, Prod.mk.injEq] at H
            obtain ⟨rfl, rfl, rfl, rfl⟩ := H
            have p342 : 0 ≤ (x51_2 : Int) := of_decide_eq_true (by first | (with_reducible assumption) | assumption)
            have q342 : x51_2 < (y338.length : Int) := of_decide_eq_true (by first | (with_reducible assumption) | assumption)
            obtain ⟨ad342, e342, hx342_0, hx342_1, hx342_2, hx342_3, hx342_4, hx342_5, hx342_6, hx342_7, hx342_8, hx342_9⟩ := at_T70 HR341.out x51_2 p342 q342
            cases e342
            replace hx342_0 := (HB.out.cell (World.block_lt_of_cell? w _ hx342_0)).trans hx342_0
            replace hx342_1 := (HB.out.cell (World.block_lt_of_cell? w _ hx342_1)).trans hx342_1
            replace hx342_2 := (HB.out.cell (World.block_lt_of_cell? w _ hx342_2)).trans hx342_2
            replace hx342_3 := (HB.out.cell (World.block_lt_of_cell? w _ hx342_3)).trans hx342_3
            replace hx342_4 := (HB.out.cell (World.block_lt_of_cell? w _ hx342_4)).trans hx342_4
            replace hx342_5 := (HB.out.cell (World.block_lt_of_cell? w _ hx342_5)).trans hx342_5
            replace hx342_6 := (HB.out.cell (World.block_lt_of_cell? w _ hx342_6)).trans hx342_6
            replace hx342_7 := (HB.out.cell (World.block_lt_of_cell? w _ hx342_7)).trans hx342_7
            replace hx342_8 := (HB.out.cell (World.block_lt_of_cell? w _ hx342_8)).trans hx342_8
            replace hx342_9 := (HB.out.cell (World.block_lt_of_cell? w _ hx342_9)).trans hx342_9
            replace p342 := eq_true p342
            replace q342 := eq_true q342
            go_wp2_with (first | ((with_reducible refine gate_dst (N := 14) rfl ?_); (try (refine gate_guard (by rfl) ?_; dsimp only)); refine box_event ?hg (N := 14) ?hd (cs := #[.string (⟨#[]⟩ : ByteArray), .string (⟨#[]⟩ : ByteArray), .int .i64 0, .int .i64 0, .int .i64 0, .int .i64 0, .int .i64 0, .int .i64 0, .int .i64 0, .bool false]) (t := 70) ?hr ?_; (case hd => rfl); (case hg => rfl); (case hr => first | (go_simp; done) | (go_simp; rfl)); intro gb343 hg w44 hbox hb; have n0_ := Aside0.mk (blk_below (g := gb334) (o := .cells #[.int .i64 a2_0, .int .i64 a2_1, .int .i64 a2_2] 65 (0, 0)) (by (with_reducible repeat (first | refine blk_drewN ?_ _ | refine blk_drew ?_ | refine blk_alloc ?_ _)); exact BK334.out) hb); have n1_ := Aside0.mk (blk_below (g := gb335) (o := .cells #[.int .i64 x336000_2, .int .i64 x336001_2, .int .i64 x336002_2] 50 (0, 0)) (by (with_reducible repeat (first | refine blk_drewN ?_ _ | refine blk_drew ?_ | refine blk_alloc ?_ _)); exact BK335.out) hb); have n2_ := Aside0.mk (blk_below (g := gb336) (o := .cells #[.int .i64 a2_1, .int .i64 a2_2] 88 (0, 0)) (by (with_reducible repeat (first | refine blk_drewN ?_ _ | refine blk_drew ?_ | refine blk_alloc ?_ _)); exact BK336.out) hb); have n3_ := Aside0.mk (below_step (by repeat (first | (with_reducible first | exact HB.out | apply below_alloc | apply pw_below_drewN | apply below_drew1 | refine below_set ?_ GE334.out | refine below_set ?_ GE335.out | refine below_set ?_ GE336.out) | exact HB.out)) hb); have n4_ := Aside0.mk (hbox); have n5_ := Aside0.mk ((by rw [hg]; exact (below_size (by repeat (first | (with_reducible first | exact HB.out | apply below_alloc | apply pw_below_drewN | apply below_drew1 | refine below_set ?_ GE334.out | refine below_set ?_ GE335.out | refine below_set ?_ GE336.out) | exact HB.out))) : w.heap.size ≤ gb343)); have n6_ := Aside0.mk ((by rw [hg]; exact (below_size (by repeat (first | (with_reducible first | exact HB.out | apply below_alloc | apply pw_below_drewN | apply below_drew1 | refine below_set ?_ GE334.out | refine below_set ?_ GE335.out | refine below_set ?_ GE336.out) | exact HB.out))) : w.heap.size ≤ gb343)); have n7_ := Aside0.mk ((by rw [hg]; exact Nat.ne_of_lt (blk_lt (g := gb334) (o := .cells #[.int .i64 a2_0, .int .i64 a2_1, .int .i64 a2_2] 65 (0, 0)) (by (with_reducible repeat (first | refine blk_drewN ?_ _ | refine blk_drew ?_ | refine blk_alloc ?_ _)); exact BK334.out)) : gb334 ≠ gb343)); have n8_ := Aside0.mk ((by rw [hg]; exact Nat.ne_of_gt (blk_lt (g := gb334) (o := .cells #[.int .i64 a2_0, .int .i64 a2_1, .int .i64 a2_2] 65 (0, 0)) (by (with_reducible repeat (first | refine blk_drewN ?_ _ | refine blk_drew ?_ | refine blk_alloc ?_ _)); exact BK334.out)) : gb343 ≠ gb334)); have n9_ := Aside0.mk ((by rw [hg]; exact Nat.ne_of_lt (blk_lt (g := gb335) (o := .cells #[.int .i64 x336000_2, .int .i64 x336001_2, .int .i64 x336002_2] 50 (0, 0)) (by (with_reducible repeat (first | refine blk_drewN ?_ _ | refine blk_drew ?_ | refine blk_alloc ?_ _)); exact BK335.out)) : gb335 ≠ gb343)); have n10_ := Aside0.mk ((by rw [hg]; exact Nat.ne_of_gt (blk_lt (g := gb335) (o := .cells #[.int .i64 x336000_2, .int .i64 x336001_2, .int .i64 x336002_2] 50 (0, 0)) (by (with_reducible repeat (first | refine blk_drewN ?_ _ | refine blk_drew ?_ | refine blk_alloc ?_ _)); exact BK335.out)) : gb343 ≠ gb335)); have n11_ := Aside0.mk ((by rw [hg]; exact Nat.ne_of_lt (blk_lt (g := gb336) (o := .cells #[.int .i64 a2_1, .int .i64 a2_2] 88 (0, 0)) (by (with_reducible repeat (first | refine blk_drewN ?_ _ | refine blk_drew ?_ | refine blk_alloc ?_ _)); exact BK336.out)) : gb336 ≠ gb343)); have n12_ := Aside0.mk ((by rw [hg]; exact Nat.ne_of_gt (blk_lt (g := gb336) (o := .cells #[.int .i64 a2_1, .int .i64 a2_2] 88 (0, 0)) (by (with_reducible repeat (first | refine blk_drewN ?_ _ | refine blk_drew ?_ | refine blk_alloc ?_ _)); exact BK336.out)) : gb343 ≠ gb336)); clear BK334; clear BK335; clear BK336; clear HB; have BK334 := n0_; have BK335 := n1_; have BK336 := n2_; have HB := n3_; have BK343 := n4_; have GW343 := n5_; have GE343 := n6_; have NB334_343 := n7_; have NB343_334 := n8_; have NB335_343 := n9_; have NB343_335 := n10_; have NB336_343 := n11_; have NB343_336 := n12_; clear n0_ n1_ n2_ n3_ n4_ n5_ n6_ n7_ n8_ n9_ n10_ n11_ n12_; clear hb hbox hg; have hnb45 := NB343_334.out; have hnc45 := NB334_343.out; have hnb46 := NB343_335.out; have hnc46 := NB335_343.out; have hnb47 := NB343_336.out; have hnc47 := NB336_343.out; have hcz48_0 : w44.cell? ⟨gb343, 0, none⟩ = some (.string (⟨#[]⟩ : ByteArray)) := (blk_cell BK343.out 0).trans rfl; have hcz48_1 : w44.cell? ⟨gb343, 1, none⟩ = some (.string (⟨#[]⟩ : ByteArray)) := (blk_cell BK343.out 1).trans rfl; have hcz48_2 : w44.cell? ⟨gb343, 2, none⟩ = some (.int .i64 0) := (blk_cell BK343.out 2).trans rfl; have hcz48_3 : w44.cell? ⟨gb343, 3, none⟩ = some (.int .i64 0) := (blk_cell BK343.out 3).trans rfl; have hcz48_4 : w44.cell? ⟨gb343, 4, none⟩ = some (.int .i64 0) := (blk_cell BK343.out 4).trans rfl; have hcz48_5 : w44.cell? ⟨gb343, 5, none⟩ = some (.int .i64 0) := (blk_cell BK343.out 5).trans rfl; have hcz48_6 : w44.cell? ⟨gb343, 6, none⟩ = some (.int .i64 0) := (blk_cell BK343.out 6).trans rfl; have hcz48_7 : w44.cell? ⟨gb343, 7, none⟩ = some (.int .i64 0) := (blk_cell BK343.out 7).trans rfl; have hcz48_8 : w44.cell? ⟨gb343, 8, none⟩ = some (.int .i64 0) := (blk_cell BK343.out 8).trans rfl; have hcz48_9 : w44.cell? ⟨gb343, 9, none⟩ = some (.bool false) := (blk_cell BK343.out 9).trans rfl; have hfz48_0 := blk_frozen BK343.out 0; have hfz48_1 := blk_frozen BK343.out 1; have hfz48_2 := blk_frozen BK343.out 2; have hfz48_3 := blk_frozen BK343.out 3; have hfz48_4 := blk_frozen BK343.out 4; have hfz48_5 := blk_frozen BK343.out 5; have hfz48_6 := blk_frozen BK343.out 6; have hfz48_7 := blk_frozen BK343.out 7; have hfz48_8 := blk_frozen BK343.out 8; have hfz48_9 := blk_frozen BK343.out 9; have hnb49 := NB335_334.out; have hnc49 := NB334_335.out; have hnb50 := NB335_336.out; have hnc50 := NB336_335.out; have hcz51_0 : w44.cell? ⟨gb335, 0, none⟩ = some (.int .i64 x336000_2) := (blk_cell BK335.out 0).trans rfl; have hcz51_1 : w44.cell? ⟨gb335, 1, none⟩ = some (.int .i64 x336001_2) := (blk_cell BK335.out 1).trans rfl; have hcz51_2 : w44.cell? ⟨gb335, 2, none⟩ = some (.int .i64 x336002_2) := (blk_cell BK335.out 2).trans rfl; have hfz51_0 := blk_frozen BK335.out 0; have hfz51_1 := blk_frozen BK335.out 1; have hfz51_2 := blk_frozen BK335.out 2))
            refine bodyPost_ret (results_ct rfl _ _ gb335 50 #[.int .i64 0, .int .i64 0, .int .i64 0] (0, 0) _ rfl (by (with_reducible repeat (first | refine blk_drewN ?_ _ | refine blk_drew ?_ | refine blk_alloc ?_ _)); refine blk_put (cs := #[.int .i64 0, .int .i64 0, .int .i64 x336002_2]) ?_ 2 _ rfl; (with_reducible repeat (first | refine blk_drewN ?_ _ | refine blk_drew ?_ | refine blk_alloc ?_ _)); refine blk_put (cs := #[.int .i64 0, .int .i64 x336001_2, .int .i64 x336002_2]) ?_ 1 _ rfl; (with_reducible repeat (first | refine blk_drewN ?_ _ | refine blk_drew ?_ | refine blk_alloc ?_ _)); refine blk_put (cs := #[.int .i64 x336000_2, .int .i64 x336001_2, .int .i64 x336002_2]) ?_ 0 _ rfl; (with_reducible repeat (first | refine blk_drewN ?_ _ | refine blk_drew ?_ | refine blk_alloc ?_ _)); refine blk_far ?_ NB335_343.out _; (with_reducible repeat (first | refine blk_drewN ?_ _ | refine blk_drew ?_ | refine blk_alloc ?_ _)); refine blk_far ?_ NB335_343.out _; (with_reducible repeat (first | refine blk_drewN ?_ _ | refine blk_drew ?_ | refine blk_alloc ?_ _)); refine blk_far ?_ NB335_343.out _; (with_reducible repeat (first | refine blk_drewN ?_ _ | refine blk_drew ?_ | refine blk_alloc ?_ _)); refine blk_far ?_ NB335_343.out _; (with_reducible repeat (first | refine blk_drewN ?_ _ | refine blk_drew ?_ | refine blk_alloc ?_ _)); refine blk_far ?_ NB335_343.out _; (with_reducible repeat (first | refine blk_drewN ?_ _ | refine blk_drew ?_ | refine blk_alloc ?_ _)); refine blk_far ?_ NB335_343.out _; (with_reducible repeat (first | refine blk_drewN ?_ _ | refine blk_drew ?_ | refine blk_alloc ?_ _)); refine blk_far ?_ NB335_343.out _; (with_reducible repeat (first | refine blk_drewN ?_ _ | refine blk_drew ?_ | refine blk_alloc ?_ _)); refine blk_far ?_ NB335_343.out _; (with_reducible repeat (first | refine blk_drewN ?_ _ | refine blk_drew ?_ | refine blk_alloc ?_ _)); refine blk_far ?_ NB335_343.out _; (with_reducible repeat (first | refine blk_drewN ?_ _ | refine blk_drew ?_ | refine blk_alloc ?_ _)); refine blk_far ?_ NB335_343.out _; (with_reducible repeat (first | refine blk_drewN ?_ _ | refine blk_drew ?_ | refine blk_alloc ?_ _)); exact BK335.out) Try.underlying50 rfl (by kernel_rfl)) rfl ?_
            exact ⟨by first | rfl | (simp [errW_none, errW_some] <;> rfl) | (simp only [← hji36]; first | rfl | (simp [errW_none, errW_some] <;> rfl)) | (simp [*, errW_none, errW_some] <;> rfl), by repeat (first | (with_reducible first | exact HB.out | apply below_alloc | apply pw_below_drewN | apply below_drew1 | refine below_set ?_ GE334.out | refine below_set ?_ GE335.out | refine below_set ?_ GE336.out | refine below_set ?_ GE343.out) | exact HB.out)⟩
           ·rw [if_neg c43] at H
            have c43b0 : decide (((rd_T70 y338 x51_2).f1) < 0) = false := decide_eq_false c43
            clear c43
            by_cases c52 : ((rd_T70 y338 x51_2).f1) > a3
            ·rw [if_pos c52] at H
             have c52b0 : decide (a3 < ((rd_T70 y338 x51_2).f1)) = true := decide_eq_true c52
             clear c52
             simp only [Option.some.injEq, Prod.mk.injEq] at H
             obtain ⟨rfl, rfl, rfl, rfl⟩ := H
             have p342 : 0 ≤ (x51_2 : Int) := of_decide_eq_true (by first | (with_reducible assumption) | assumption)
             have q342 : x51_2 < (y338.length : Int) := of_decide_eq_true (by first | (with_reducible assumption) | assumption)
             obtain ⟨ad342, e342, hx342_0, hx342_1, hx342_2, hx342_3, hx342_4, hx342_5, hx342_6, hx342_7, hx342_8, hx342_9⟩ := at_T70 HR341.out x51_2 p342 q342
             cases e342
             replace hx342_0 := (HB.out.cell (World.block_lt_of_cell? w _ hx342_0)).trans hx342_0
             replace hx342_1 := (HB.out.cell (World.block_lt_of_cell? w _ hx342_1)).trans hx342_1
             replace hx342_2 := (HB.out.cell (World.block_lt_of_cell? w _ hx342_2)).trans hx342_2
             replace hx342_3 := (HB.out.cell (World.block_lt_of_cell? w _ hx342_3)).trans hx342_3
             replace hx342_4 := (HB.out.cell (World.block_lt_of_cell? w _ hx342_4)).trans hx342_4
             replace hx342_5 := (HB.out.cell (World.block_lt_of_cell? w _ hx342_5)).trans hx342_5
             replace hx342_6 := (HB.out.cell (World.block_lt_of_cell? w _ hx342_6)).trans hx342_6
             replace hx342_7 := (HB.out.cell (World.block_lt_of_cell? w _ hx342_7)).trans hx342_7
             replace hx342_8 := (HB.out.cell (World.block_lt_of_cell? w _ hx342_8)).trans hx342_8
             replace hx342_9 := (HB.out.cell (World.block_lt_of_cell? w _ hx342_9)).trans hx342_9
             replace p342 := eq_true p342
             replace q342 := eq_true q342
             go_wp2_with (first | ((with_reducible refine gate_dst (N := 14) rfl ?_); (try (refine gate_guard (by rfl) ?_; dsimp only)); refine box_event ?hg (N := 14) ?hd (cs := #[.string (⟨#[]⟩ : ByteArray), .string (⟨#[]⟩ : ByteArray), .int .i64 0, .int .i64 0, .int .i64 0, .int .i64 0, .int .i64 0, .int .i64 0, .int .i64 0, .bool false]) (t := 70) ?hr ?_; (case hd => rfl); (case hg => rfl); (case hr => first | (go_simp; done) | (go_simp; rfl)); intro gb343 hg w53 hbox hb; have n0_ := Aside0.mk (blk_below (g := gb334) (o := .cells #[.int .i64 a2_0, .int .i64 a2_1, .int .i64 a2_2] 65 (0, 0)) (by (with_reducible repeat (first | refine blk_drewN ?_ _ | refine blk_drew ?_ | refine blk_alloc ?_ _)); exact BK334.out) hb); have n1_ := Aside0.mk (blk_below (g := gb335) (o := .cells #[.int .i64 x336000_2, .int .i64 x336001_2, .int .i64 x336002_2] 50 (0, 0)) (by (with_reducible repeat (first | refine blk_drewN ?_ _ | refine blk_drew ?_ | refine blk_alloc ?_ _)); exact BK335.out) hb); have n2_ := Aside0.mk (blk_below (g := gb336) (o := .cells #[.int .i64 a2_1, .int .i64 a2_2] 88 (0, 0)) (by (with_reducible repeat (first | refine blk_drewN ?_ _ | refine blk_drew ?_ | refine blk_alloc ?_ _)); exact BK336.out) hb); have n3_ := Aside0.mk (below_step (by repeat (first | (with_reducible first | exact HB.out | apply below_alloc | apply pw_below_drewN | apply below_drew1 | refine below_set ?_ GE334.out | refine below_set ?_ GE335.out | refine below_set ?_ GE336.out) | exact HB.out)) hb); have n4_ := Aside0.mk (hbox); have n5_ := Aside0.mk ((by rw [hg]; exact (below_size (by repeat (first | (with_reducible first | exact HB.out | apply below_alloc | apply pw_below_drewN | apply below_drew1 | refine below_set ?_ GE334.out | refine below_set ?_ GE335.out | refine below_set ?_ GE336.out) | exact HB.out))) : w.heap.size ≤ gb343)); have n6_ := Aside0.mk ((by rw [hg]; exact (below_size (by repeat (first | (with_reducible first | exact HB.out | apply below_alloc | apply pw_below_drewN | apply below_drew1 | refine below_set ?_ GE334.out | refine below_set ?_ GE335.out | refine below_set ?_ GE336.out) | exact HB.out))) : w.heap.size ≤ gb343)); have n7_ := Aside0.mk ((by rw [hg]; exact Nat.ne_of_lt (blk_lt (g := gb334) (o := .cells #[.int .i64 a2_0, .int .i64 a2_1, .int .i64 a2_2] 65 (0, 0)) (by (with_reducible repeat (first | refine blk_drewN ?_ _ | refine blk_drew ?_ | refine blk_alloc ?_ _)); exact BK334.out)) : gb334 ≠ gb343)); have n8_ := Aside0.mk ((by rw [hg]; exact Nat.ne_of_gt (blk_lt (g := gb334) (o := .cells #[.int .i64 a2_0, .int .i64 a2_1, .int .i64 a2_2] 65 (0, 0)) (by (with_reducible repeat (first | refine blk_drewN ?_ _ | refine blk_drew ?_ | refine blk_alloc ?_ _)); exact BK334.out)) : gb343 ≠ gb334)); have n9_ := Aside0.mk ((by rw [hg]; exact Nat.ne_of_lt (blk_lt (g := gb335) (o := .cells #[.int .i64 x336000_2, .int .i64 x336001_2, .int .i64 x336002_2] 50 (0, 0)) (by (with_reducible repeat (first | refine blk_drewN ?_ _ | refine blk_drew ?_ | refine blk_alloc ?_ _)); exact BK335.out)) : gb335 ≠ gb343)); have n10_ := Aside0.mk ((by rw [hg]; exact Nat.ne_of_gt (blk_lt (g := gb335) (o := .cells #[.int .i64 x336000_2, .int .i64 x336001_2, .int .i64 x336002_2] 50 (0, 0)) (by (with_reducible repeat (first | refine blk_drewN ?_ _ | refine blk_drew ?_ | refine blk_alloc ?_ _)); exact BK335.out)) : gb343 ≠ gb335)); have n11_ := Aside0.mk ((by rw [hg]; exact Nat.ne_of_lt (blk_lt (g := gb336) (o := .cells #[.int .i64 a2_1, .int .i64 a2_2] 88 (0, 0)) (by (with_reducible repeat (first | refine blk_drewN ?_ _ | refine blk_drew ?_ | refine blk_alloc ?_ _)); exact BK336.out)) : gb336 ≠ gb343)); have n12_ := Aside0.mk ((by rw [hg]; exact Nat.ne_of_gt (blk_lt (g := gb336) (o := .cells #[.int .i64 a2_1, .int .i64 a2_2] 88 (0, 0)) (by (with_reducible repeat (first | refine blk_drewN ?_ _ | refine blk_drew ?_ | refine blk_alloc ?_ _)); exact BK336.out)) : gb343 ≠ gb336)); clear BK334; clear BK335; clear BK336; clear HB; have BK334 := n0_; have BK335 := n1_; have BK336 := n2_; have HB := n3_; have BK343 := n4_; have GW343 := n5_; have GE343 := n6_; have NB334_343 := n7_; have NB343_334 := n8_; have NB335_343 := n9_; have NB343_335 := n10_; have NB336_343 := n11_; have NB343_336 := n12_; clear n0_ n1_ n2_ n3_ n4_ n5_ n6_ n7_ n8_ n9_ n10_ n11_ n12_; clear hb hbox hg; have hnb54 := NB343_334.out; have hnc54 := NB334_343.out; have hnb55 := NB343_335.out; have hnc55 := NB335_343.out; have hnb56 := NB343_336.out; have hnc56 := NB336_343.out; have hcz57_0 : w53.cell? ⟨gb343, 0, none⟩ = some (.string (⟨#[]⟩ : ByteArray)) := (blk_cell BK343.out 0).trans rfl; have hcz57_1 : w53.cell? ⟨gb343, 1, none⟩ = some (.string (⟨#[]⟩ : ByteArray)) := (blk_cell BK343.out 1).trans rfl; have hcz57_2 : w53.cell? ⟨gb343, 2, none⟩ = some (.int .i64 0) := (blk_cell BK343.out 2).trans rfl; have hcz57_3 : w53.cell? ⟨gb343, 3, none⟩ = some (.int .i64 0) := (blk_cell BK343.out 3).trans rfl; have hcz57_4 : w53.cell? ⟨gb343, 4, none⟩ = some (.int .i64 0) := (blk_cell BK343.out 4).trans rfl; have hcz57_5 : w53.cell? ⟨gb343, 5, none⟩ = some (.int .i64 0) := (blk_cell BK343.out 5).trans rfl; have hcz57_6 : w53.cell? ⟨gb343, 6, none⟩ = some (.int .i64 0) := (blk_cell BK343.out 6).trans rfl; have hcz57_7 : w53.cell? ⟨gb343, 7, none⟩ = some (.int .i64 0) := (blk_cell BK343.out 7).trans rfl; have hcz57_8 : w53.cell? ⟨gb343, 8, none⟩ = some (.int .i64 0) := (blk_cell BK343.out 8).trans rfl; have hcz57_9 : w53.cell? ⟨gb343, 9, none⟩ = some (.bool false) := (blk_cell BK343.out 9).trans rfl; have hfz57_0 := blk_frozen BK343.out 0; have hfz57_1 := blk_frozen BK343.out 1; have hfz57_2 := blk_frozen BK343.out 2; have hfz57_3 := blk_frozen BK343.out 3; have hfz57_4 := blk_frozen BK343.out 4; have hfz57_5 := blk_frozen BK343.out 5; have hfz57_6 := blk_frozen BK343.out 6; have hfz57_7 := blk_frozen BK343.out 7; have hfz57_8 := blk_frozen BK343.out 8; have hfz57_9 := blk_frozen BK343.out 9; have hnb58 := NB335_334.out; have hnc58 := NB334_335.out; have hnb59 := NB335_336.out; have hnc59 := NB336_335.out; have hcz60_0 : w53.cell? ⟨gb335, 0, none⟩ = some (.int .i64 x336000_2) := (blk_cell BK335.out 0).trans rfl; have hcz60_1 : w53.cell? ⟨gb335, 1, none⟩ = some (.int .i64 x336001_2) := (blk_cell BK335.out 1).trans rfl; have hcz60_2 : w53.cell? ⟨gb335, 2, none⟩ = some (.int .i64 x336002_2) := (blk_cell BK335.out 2).trans rfl; have hfz60_0 := blk_frozen BK335.out 0; have hfz60_1 := blk_frozen BK335.out 1; have hfz60_2 := blk_frozen BK335.out 2))
             refine bodyPost_ret (results_ct rfl _ _ gb335 50 #[.int .i64 0, .int .i64 0, .int .i64 0] (0, 0) _ rfl (by (with_reducible repeat (first | refine blk_drewN ?_ _ | refine blk_drew ?_ | refine blk_alloc ?_ _)); refine blk_put (cs := #[.int .i64 0, .int .i64 0, .int .i64 x336002_2]) ?_ 2 _ rfl; (with_reducible repeat (first | refine blk_drewN ?_ _ | refine blk_drew ?_ | refine blk_alloc ?_ _)); refine blk_put (cs := #[.int .i64 0, .int .i64 x336001_2, .int .i64 x336002_2]) ?_ 1 _ rfl; (with_reducible repeat (first | refine blk_drewN ?_ _ | refine blk_drew ?_ | refine blk_alloc ?_ _)); refine blk_put (cs := #[.int .i64 x336000_2, .int .i64 x336001_2, .int .i64 x336002_2]) ?_ 0 _ rfl; (with_reducible repeat (first | refine blk_drewN ?_ _ | refine blk_drew ?_ | refine blk_alloc ?_ _)); refine blk_far ?_ NB335_343.out _; (with_reducible repeat (first | refine blk_drewN ?_ _ | refine blk_drew ?_ | refine blk_alloc ?_ _)); refine blk_far ?_ NB335_343.out _; (with_reducible repeat (first | refine blk_drewN ?_ _ | refine blk_drew ?_ | refine blk_alloc ?_ _)); refine blk_far ?_ NB335_343.out _; (with_reducible repeat (first | refine blk_drewN ?_ _ | refine blk_drew ?_ | refine blk_alloc ?_ _)); refine blk_far ?_ NB335_343.out _; (with_reducible repeat (first | refine blk_drewN ?_ _ | refine blk_drew ?_ | refine blk_alloc ?_ _)); refine blk_far ?_ NB335_343.out _; (with_reducible repeat (first | refine blk_drewN ?_ _ | refine blk_drew ?_ | refine blk_alloc ?_ _)); refine blk_far ?_ NB335_343.out _; (with_reducible repeat (first | refine blk_drewN ?_ _ | refine blk_drew ?_ | refine blk_alloc ?_ _)); refine blk_far ?_ NB335_343.out _; (with_reducible repeat (first | refine blk_drewN ?_ _ | refine blk_drew ?_ | refine blk_alloc ?_ _)); refine blk_far ?_ NB335_343.out _; (with_reducible repeat (first | refine blk_drewN ?_ _ | refine blk_drew ?_ | refine blk_alloc ?_ _)); refine blk_far ?_ NB335_343.out _; (with_reducible repeat (first | refine blk_drewN ?_ _ | refine blk_drew ?_ | refine blk_alloc ?_ _)); refine blk_far ?_ NB335_343.out _; (with_reducible repeat (first | refine blk_drewN ?_ _ | refine blk_drew ?_ | refine blk_alloc ?_ _)); exact BK335.out) Try.underlying50 rfl (by kernel_rfl)) rfl ?_
             exact ⟨by first | rfl | (simp [errW_none, errW_some] <;> rfl) | (simp only [← hji36]; first | rfl | (simp [errW_none, errW_some] <;> rfl)) | (simp [*, errW_none, errW_some] <;> rfl), by repeat (first | (with_reducible first | exact HB.out | apply below_alloc | apply pw_below_drewN | apply below_drew1 | refine below_set ?_ GE334.out | refine below_set ?_ GE335.out | refine below_set ?_ GE336.out | refine below_set ?_ GE343.out) | exact HB.out)⟩
            ·rw [if_neg c52] at H
             have c52b0 : decide (a3 < ((rd_T70 y338 x51_2).f1)) = false := decide_eq_false c52
             clear c52
             have H' := Aside0.mk H
             clear H
             have p342 : 0 ≤ (x51_2 : Int) := of_decide_eq_true (by first | (with_reducible assumption) | assumption)
             have q342 : x51_2 < (y338.length : Int) := of_decide_eq_true (by first | (with_reducible assumption) | assumption)
             obtain ⟨ad342, e342, hx342_0, hx342_1, hx342_2, hx342_3, hx342_4, hx342_5, hx342_6, hx342_7, hx342_8, hx342_9⟩ := at_T70 HR341.out x51_2 p342 q342
             cases e342
             replace hx342_0 := (HB.out.cell (World.block_lt_of_cell? w _ hx342_0)).trans hx342_0
             replace hx342_1 := (HB.out.cell (World.block_lt_of_cell? w _ hx342_1)).trans hx342_1
             replace hx342_2 := (HB.out.cell (World.block_lt_of_cell? w _ hx342_2)).trans hx342_2
             replace hx342_3 := (HB.out.cell (World.block_lt_of_cell? w _ hx342_3)).trans hx342_3
             replace hx342_4 := (HB.out.cell (World.block_lt_of_cell? w _ hx342_4)).trans hx342_4
             replace hx342_5 := (HB.out.cell (World.block_lt_of_cell? w _ hx342_5)).trans hx342_5
             replace hx342_6 := (HB.out.cell (World.block_lt_of_cell? w _ hx342_6)).trans hx342_6
             replace hx342_7 := (HB.out.cell (World.block_lt_of_cell? w _ hx342_7)).trans hx342_7
             replace hx342_8 := (HB.out.cell (World.block_lt_of_cell? w _ hx342_8)).trans hx342_8
             replace hx342_9 := (HB.out.cell (World.block_lt_of_cell? w _ hx342_9)).trans hx342_9
             replace p342 := eq_true p342
             replace q342 := eq_true q342
             go_wp2_with (first | ((with_reducible refine gate_dst (N := 14) rfl ?_); (try (refine gate_guard (by rfl) ?_; dsimp only)); refine box_event ?hg (N := 14) ?hd (cs := #[.string (⟨#[]⟩ : ByteArray), .string (⟨#[]⟩ : ByteArray), .int .i64 0, .int .i64 0, .int .i64 0, .int .i64 0, .int .i64 0, .int .i64 0, .int .i64 0, .bool false]) (t := 70) ?hr ?_; (case hd => rfl); (case hg => rfl); (case hr => first | (go_simp; done) | (go_simp; rfl)); intro gb343 hg w61 hbox hb; have n0_ := Aside0.mk (blk_below (g := gb334) (o := .cells #[.int .i64 a2_0, .int .i64 a2_1, .int .i64 a2_2] 65 (0, 0)) (by (with_reducible repeat (first | refine blk_drewN ?_ _ | refine blk_drew ?_ | refine blk_alloc ?_ _)); exact BK334.out) hb); have n1_ := Aside0.mk (blk_below (g := gb335) (o := .cells #[.int .i64 x336000_2, .int .i64 x336001_2, .int .i64 x336002_2] 50 (0, 0)) (by (with_reducible repeat (first | refine blk_drewN ?_ _ | refine blk_drew ?_ | refine blk_alloc ?_ _)); exact BK335.out) hb); have n2_ := Aside0.mk (blk_below (g := gb336) (o := .cells #[.int .i64 a2_1, .int .i64 a2_2] 88 (0, 0)) (by (with_reducible repeat (first | refine blk_drewN ?_ _ | refine blk_drew ?_ | refine blk_alloc ?_ _)); exact BK336.out) hb); have n3_ := Aside0.mk (below_step (by repeat (first | (with_reducible first | exact HB.out | apply below_alloc | apply pw_below_drewN | apply below_drew1 | refine below_set ?_ GE334.out | refine below_set ?_ GE335.out | refine below_set ?_ GE336.out) | exact HB.out)) hb); have n4_ := Aside0.mk (hbox); have n5_ := Aside0.mk ((by rw [hg]; exact (below_size (by repeat (first | (with_reducible first | exact HB.out | apply below_alloc | apply pw_below_drewN | apply below_drew1 | refine below_set ?_ GE334.out | refine below_set ?_ GE335.out | refine below_set ?_ GE336.out) | exact HB.out))) : w.heap.size ≤ gb343)); have n6_ := Aside0.mk ((by rw [hg]; exact (below_size (by repeat (first | (with_reducible first | exact HB.out | apply below_alloc | apply pw_below_drewN | apply below_drew1 | refine below_set ?_ GE334.out | refine below_set ?_ GE335.out | refine below_set ?_ GE336.out) | exact HB.out))) : w.heap.size ≤ gb343)); have n7_ := Aside0.mk ((by rw [hg]; exact Nat.ne_of_lt (blk_lt (g := gb334) (o := .cells #[.int .i64 a2_0, .int .i64 a2_1, .int .i64 a2_2] 65 (0, 0)) (by (with_reducible repeat (first | refine blk_drewN ?_ _ | refine blk_drew ?_ | refine blk_alloc ?_ _)); exact BK334.out)) : gb334 ≠ gb343)); have n8_ := Aside0.mk ((by rw [hg]; exact Nat.ne_of_gt (blk_lt (g := gb334) (o := .cells #[.int .i64 a2_0, .int .i64 a2_1, .int .i64 a2_2] 65 (0, 0)) (by (with_reducible repeat (first | refine blk_drewN ?_ _ | refine blk_drew ?_ | refine blk_alloc ?_ _)); exact BK334.out)) : gb343 ≠ gb334)); have n9_ := Aside0.mk ((by rw [hg]; exact Nat.ne_of_lt (blk_lt (g := gb335) (o := .cells #[.int .i64 x336000_2, .int .i64 x336001_2, .int .i64 x336002_2] 50 (0, 0)) (by (with_reducible repeat (first | refine blk_drewN ?_ _ | refine blk_drew ?_ | refine blk_alloc ?_ _)); exact BK335.out)) : gb335 ≠ gb343)); have n10_ := Aside0.mk ((by rw [hg]; exact Nat.ne_of_gt (blk_lt (g := gb335) (o := .cells #[.int .i64 x336000_2, .int .i64 x336001_2, .int .i64 x336002_2] 50 (0, 0)) (by (with_reducible repeat (first | refine blk_drewN ?_ _ | refine blk_drew ?_ | refine blk_alloc ?_ _)); exact BK335.out)) : gb343 ≠ gb335)); have n11_ := Aside0.mk ((by rw [hg]; exact Nat.ne_of_lt (blk_lt (g := gb336) (o := .cells #[.int .i64 a2_1, .int .i64 a2_2] 88 (0, 0)) (by (with_reducible repeat (first | refine blk_drewN ?_ _ | refine blk_drew ?_ | refine blk_alloc ?_ _)); exact BK336.out)) : gb336 ≠ gb343)); have n12_ := Aside0.mk ((by rw [hg]; exact Nat.ne_of_gt (blk_lt (g := gb336) (o := .cells #[.int .i64 a2_1, .int .i64 a2_2] 88 (0, 0)) (by (with_reducible repeat (first | refine blk_drewN ?_ _ | refine blk_drew ?_ | refine blk_alloc ?_ _)); exact BK336.out)) : gb343 ≠ gb336)); clear BK334; clear BK335; clear BK336; clear HB; have BK334 := n0_; have BK335 := n1_; have BK336 := n2_; have HB := n3_; have BK343 := n4_; have GW343 := n5_; have GE343 := n6_; have NB334_343 := n7_; have NB343_334 := n8_; have NB335_343 := n9_; have NB343_335 := n10_; have NB336_343 := n11_; have NB343_336 := n12_; clear n0_ n1_ n2_ n3_ n4_ n5_ n6_ n7_ n8_ n9_ n10_ n11_ n12_; clear hb hbox hg; have hnb62 := NB343_334.out; have hnc62 := NB334_343.out; have hnb63 := NB343_335.out; have hnc63 := NB335_343.out; have hnb64 := NB343_336.out; have hnc64 := NB336_343.out; have hcz65_0 : w61.cell? ⟨gb343, 0, none⟩ = some (.string (⟨#[]⟩ : ByteArray)) := (blk_cell BK343.out 0).trans rfl; have hcz65_1 : w61.cell? ⟨gb343, 1, none⟩ = some (.string (⟨#[]⟩ : ByteArray)) := (blk_cell BK343.out 1).trans rfl; have hcz65_2 : w61.cell? ⟨gb343, 2, none⟩ = some (.int .i64 0) := (blk_cell BK343.out 2).trans rfl; have hcz65_3 : w61.cell? ⟨gb343, 3, none⟩ = some (.int .i64 0) := (blk_cell BK343.out 3).trans rfl; have hcz65_4 : w61.cell? ⟨gb343, 4, none⟩ = some (.int .i64 0) := (blk_cell BK343.out 4).trans rfl; have hcz65_5 : w61.cell? ⟨gb343, 5, none⟩ = some (.int .i64 0) := (blk_cell BK343.out 5).trans rfl; have hcz65_6 : w61.cell? ⟨gb343, 6, none⟩ = some (.int .i64 0) := (blk_cell BK343.out 6).trans rfl; have hcz65_7 : w61.cell? ⟨gb343, 7, none⟩ = some (.int .i64 0) := (blk_cell BK343.out 7).trans rfl; have hcz65_8 : w61.cell? ⟨gb343, 8, none⟩ = some (.int .i64 0) := (blk_cell BK343.out 8).trans rfl; have hcz65_9 : w61.cell? ⟨gb343, 9, none⟩ = some (.bool false) := (blk_cell BK343.out 9).trans rfl; have hfz65_0 := blk_frozen BK343.out 0; have hfz65_1 := blk_frozen BK343.out 1; have hfz65_2 := blk_frozen BK343.out 2; have hfz65_3 := blk_frozen BK343.out 3; have hfz65_4 := blk_frozen BK343.out 4; have hfz65_5 := blk_frozen BK343.out 5; have hfz65_6 := blk_frozen BK343.out 6; have hfz65_7 := blk_frozen BK343.out 7; have hfz65_8 := blk_frozen BK343.out 8; have hfz65_9 := blk_frozen BK343.out 9))
             go_roundg k2
             case measure => have := HJ5.out; have := HK2.out; omega
             case rel => exact ⟨(wrap64 (x51_2 + 1)), (x336000_2), (x336001_2), (x336002_2), (by first | rfl | (simp; done) | (simp [*]; done) | exact congrArg (Value.int _) (by unfold wrap64; omega)), H', ⟨by have := HJ5.out; have := HK2.out; omega⟩, ⟨by (with_reducible repeat (first | refine blk_drewN ?_ _ | refine blk_drew ?_ | refine blk_alloc ?_ _)); refine blk_far ?_ NB334_343.out _; (with_reducible repeat (first | refine blk_drewN ?_ _ | refine blk_drew ?_ | refine blk_alloc ?_ _)); refine blk_far ?_ NB334_343.out _; (with_reducible repeat (first | refine blk_drewN ?_ _ | refine blk_drew ?_ | refine blk_alloc ?_ _)); refine blk_far ?_ NB334_343.out _; (with_reducible repeat (first | refine blk_drewN ?_ _ | refine blk_drew ?_ | refine blk_alloc ?_ _)); refine blk_far ?_ NB334_343.out _; (with_reducible repeat (first | refine blk_drewN ?_ _ | refine blk_drew ?_ | refine blk_alloc ?_ _)); refine blk_far ?_ NB334_343.out _; (with_reducible repeat (first | refine blk_drewN ?_ _ | refine blk_drew ?_ | refine blk_alloc ?_ _)); refine blk_far ?_ NB334_343.out _; (with_reducible repeat (first | refine blk_drewN ?_ _ | refine blk_drew ?_ | refine blk_alloc ?_ _)); refine blk_far ?_ NB334_343.out _; (with_reducible repeat (first | refine blk_drewN ?_ _ | refine blk_drew ?_ | refine blk_alloc ?_ _)); refine blk_far ?_ NB334_343.out _; (with_reducible repeat (first | refine blk_drewN ?_ _ | refine blk_drew ?_ | refine blk_alloc ?_ _)); refine blk_far ?_ NB334_343.out _; (with_reducible repeat (first | refine blk_drewN ?_ _ | refine blk_drew ?_ | refine blk_alloc ?_ _)); refine blk_far ?_ NB334_343.out _; (with_reducible repeat (first | refine blk_drewN ?_ _ | refine blk_drew ?_ | refine blk_alloc ?_ _)); exact BK334.out⟩, ⟨by (with_reducible repeat (first | refine blk_drewN ?_ _ | refine blk_drew ?_ | refine blk_alloc ?_ _)); refine blk_far ?_ NB335_343.out _; (with_reducible repeat (first | refine blk_drewN ?_ _ | refine blk_drew ?_ | refine blk_alloc ?_ _)); refine blk_far ?_ NB335_343.out _; (with_reducible repeat (first | refine blk_drewN ?_ _ | refine blk_drew ?_ | refine blk_alloc ?_ _)); refine blk_far ?_ NB335_343.out _; (with_reducible repeat (first | refine blk_drewN ?_ _ | refine blk_drew ?_ | refine blk_alloc ?_ _)); refine blk_far ?_ NB335_343.out _; (with_reducible repeat (first | refine blk_drewN ?_ _ | refine blk_drew ?_ | refine blk_alloc ?_ _)); refine blk_far ?_ NB335_343.out _; (with_reducible repeat (first | refine blk_drewN ?_ _ | refine blk_drew ?_ | refine blk_alloc ?_ _)); refine blk_far ?_ NB335_343.out _; (with_reducible repeat (first | refine blk_drewN ?_ _ | refine blk_drew ?_ | refine blk_alloc ?_ _)); refine blk_far ?_ NB335_343.out _; (with_reducible repeat (first | refine blk_drewN ?_ _ | refine blk_drew ?_ | refine blk_alloc ?_ _)); refine blk_far ?_ NB335_343.out _; (with_reducible repeat (first | refine blk_drewN ?_ _ | refine blk_drew ?_ | refine blk_alloc ?_ _)); refine blk_far ?_ NB335_343.out _; (with_reducible repeat (first | refine blk_drewN ?_ _ | refine blk_drew ?_ | refine blk_alloc ?_ _)); refine blk_far ?_ NB335_343.out _; (with_reducible repeat (first | refine blk_drewN ?_ _ | refine blk_drew ?_ | refine blk_alloc ?_ _)); exact BK335.out⟩, ⟨by (with_reducible repeat (first | refine blk_drewN ?_ _ | refine blk_drew ?_ | refine blk_alloc ?_ _)); refine blk_far ?_ NB336_343.out _; (with_reducible repeat (first | refine blk_drewN ?_ _ | refine blk_drew ?_ | refine blk_alloc ?_ _)); refine blk_far ?_ NB336_343.out _; (with_reducible repeat (first | refine blk_drewN ?_ _ | refine blk_drew ?_ | refine blk_alloc ?_ _)); refine blk_far ?_ NB336_343.out _; (with_reducible repeat (first | refine blk_drewN ?_ _ | refine blk_drew ?_ | refine blk_alloc ?_ _)); refine blk_far ?_ NB336_343.out _; (with_reducible repeat (first | refine blk_drewN ?_ _ | refine blk_drew ?_ | refine blk_alloc ?_ _)); refine blk_far ?_ NB336_343.out _; (with_reducible repeat (first | refine blk_drewN ?_ _ | refine blk_drew ?_ | refine blk_alloc ?_ _)); refine blk_far ?_ NB336_343.out _; (with_reducible repeat (first | refine blk_drewN ?_ _ | refine blk_drew ?_ | refine blk_alloc ?_ _)); refine blk_far ?_ NB336_343.out _; (with_reducible repeat (first | refine blk_drewN ?_ _ | refine blk_drew ?_ | refine blk_alloc ?_ _)); refine blk_far ?_ NB336_343.out _; (with_reducible repeat (first | refine blk_drewN ?_ _ | refine blk_drew ?_ | refine blk_alloc ?_ _)); refine blk_far ?_ NB336_343.out _; (with_reducible repeat (first | refine blk_drewN ?_ _ | refine blk_drew ?_ | refine blk_alloc ?_ _)); refine blk_far ?_ NB336_343.out _; (with_reducible repeat (first | refine blk_drewN ?_ _ | refine blk_drew ?_ | refine blk_alloc ?_ _)); exact BK336.out⟩, ⟨by repeat (first | (with_reducible first | exact HB.out | apply below_alloc | apply pw_below_drewN | apply below_drew1 | refine below_set ?_ GE334.out | refine below_set ?_ GE335.out | refine below_set ?_ GE336.out | refine below_set ?_ GE343.out) | exact HB.out)⟩⟩
          ·rw [if_neg c42] at H
           exact absurd H (by simp)
         ·rw [if_neg c41] at H
          exact absurd H (by simp)
        ·rw [if_neg c40] at H
         have c40b0 : decide (x51_2 < (y338.length : Int)) = false := decide_eq_false c40
         clear c40
         have HC66 := Aside0.mk H
         clear H
         go_upto_if 66 with (fail)
         go_cut [15, 16] (fun v15 v16 wc => ∃ (kq : Nat) (x15_65 : Int) (x16_65 : Int), v15 = .int .i64 x15_65 ∧ v16 = .int .i64 x16_65 ∧ Aside0 (score_Of.j2 kq l0 a1 a3 x15_65 x16_65 a2_1 a2_2 = some (r1, r2, r3, r4)) ∧ Aside0 (kq ≤ k2) ∧ Aside0 (wc.heap[gb334]? = some (.cells #[.int .i64 a2_0, .int .i64 a2_1, .int .i64 a2_2] 65 (0, 0))) ∧ Aside0 (wc.heap[gb335]? = some (.cells #[.int .i64 x336000_2, .int .i64 x336001_2, .int .i64 x336002_2] 50 (0, 0))) ∧ Aside0 (wc.heap[gb336]? = some (.cells #[.int .i64 a2_1, .int .i64 a2_2] 88 (0, 0))) ∧ Aside0 (Below w.heap.size w wc))
         case first =>
          have H := HC66.out
          clear HC66
          by_cases c67 : a4 = true
          ·subst c67
           have H1 : ((score_Predict.f k2 l0 a1 1 a3).bind fun t344 => ((score_Predict.f k2 l0 a1 2 a3).bind fun t345 => (score_Of.j2 k2 l0 a1 a3 t344 t345 a2_1 a2_2))) = some (r1, r2, r3, r4) := by rw [if_pos rfl] at H; exact H
           clear H
           have H := H1
           clear H1
           replace H := Option.bind_eq_some_iff.mp H
           obtain ⟨t344, A680, H⟩ := H
           replace H : ((score_Predict.f k2 l0 a1 2 a3).bind fun t345 => (score_Of.j2 k2 l0 a1 a3 t344 t345 a2_1 a2_2)) = some (r1, r2, r3, r4) := H
           have A68 := Aside0.mk A680
           clear A680
           replace H := Option.bind_eq_some_iff.mp H
           obtain ⟨t345, A690, H⟩ := H
           replace H : (score_Of.j2 k2 l0 a1 a3 t344 t345 a2_1 a2_2) = some (r1, r2, r3, r4) := H
           have A69 := Aside0.mk A690
           clear A690
           have H' := Aside0.mk H
           clear H
           go_wp2_with (first | ((with_reducible refine gate_callee (f := 44) rfl ?_); refine goesL_ (some 70) rfl rfl Try.func44 (by kernel_rfl) rfl #[.slice A0 l0.length c0, .int .i64 a1, .int .i64 1, .int .i64 a3] rfl (by (try simp only [List.map_toArray, List.map_cons, List.map_nil]); first | done | rfl | (simp only [List.length_drop, List.length_take]; rfl)) ?_; (with_reducible refine (score_Predict.calls k2 _ _ l0 a1 1 a3 t344 _ ?side1 ?side2 A68.out).mono ?_); (case side1 => repeat (first | exact (Kd.C_below HR0.out HB.out) | (with_reducible refine Kd.C_alloc ?_ _) | (with_reducible refine Kd.C_drewN ?_ _) | (with_reducible refine Kd.C_drew ?_))); (case side2 => exact HC0.out); rintro e w70 ⟨rfl, hb⟩; refine ⟨_, rfl, ?_⟩; have n0_ := Aside0.mk (blk_below (g := gb334) (o := .cells #[.int .i64 a2_0, .int .i64 a2_1, .int .i64 a2_2] 65 (0, 0)) (by (with_reducible repeat (first | refine blk_drewN ?_ _ | refine blk_drew ?_ | refine blk_alloc ?_ _)); exact BK334.out) hb); have n1_ := Aside0.mk (blk_below (g := gb335) (o := .cells #[.int .i64 x336000_2, .int .i64 x336001_2, .int .i64 x336002_2] 50 (0, 0)) (by (with_reducible repeat (first | refine blk_drewN ?_ _ | refine blk_drew ?_ | refine blk_alloc ?_ _)); exact BK335.out) hb); have n2_ := Aside0.mk (blk_below (g := gb336) (o := .cells #[.int .i64 a2_1, .int .i64 a2_2] 88 (0, 0)) (by (with_reducible repeat (first | refine blk_drewN ?_ _ | refine blk_drew ?_ | refine blk_alloc ?_ _)); exact BK336.out) hb); have n3_ := Aside0.mk (below_step (by repeat (first | (with_reducible first | exact HB.out | apply below_alloc | apply pw_below_drewN | apply below_drew1 | refine below_set ?_ GE334.out | refine below_set ?_ GE335.out | refine below_set ?_ GE336.out) | exact HB.out)) hb); clear BK334; clear BK335; clear BK336; clear HB; have BK334 := n0_; have BK335 := n1_; have BK336 := n2_; have HB := n3_; clear n0_ n1_ n2_ n3_; (try clear hb); (try clear hb2); (try clear hk); (try clear hi)) | ((with_reducible refine gate_callee (f := 44) rfl ?_); refine goesL_ (some 74) rfl rfl Try.func44 (by kernel_rfl) rfl #[.slice A0 l0.length c0, .int .i64 a1, .int .i64 2, .int .i64 a3] rfl (by (try simp only [List.map_toArray, List.map_cons, List.map_nil]); first | done | rfl | (simp only [List.length_drop, List.length_take]; rfl)) ?_; (with_reducible refine (score_Predict.calls k2 _ _ l0 a1 2 a3 t345 _ ?side1 ?side2 A69.out).mono ?_); (case side1 => repeat (first | exact (Kd.C_below HR0.out HB.out) | (with_reducible refine Kd.C_alloc ?_ _) | (with_reducible refine Kd.C_drewN ?_ _) | (with_reducible refine Kd.C_drew ?_))); (case side2 => exact HC0.out); rintro e w71 ⟨rfl, hb⟩; refine ⟨_, rfl, ?_⟩; have n0_ := Aside0.mk (blk_below (g := gb334) (o := .cells #[.int .i64 a2_0, .int .i64 a2_1, .int .i64 a2_2] 65 (0, 0)) (by (with_reducible repeat (first | refine blk_drewN ?_ _ | refine blk_drew ?_ | refine blk_alloc ?_ _)); exact BK334.out) hb); have n1_ := Aside0.mk (blk_below (g := gb335) (o := .cells #[.int .i64 x336000_2, .int .i64 x336001_2, .int .i64 x336002_2] 50 (0, 0)) (by (with_reducible repeat (first | refine blk_drewN ?_ _ | refine blk_drew ?_ | refine blk_alloc ?_ _)); exact BK335.out) hb); have n2_ := Aside0.mk (blk_below (g := gb336) (o := .cells #[.int .i64 a2_1, .int .i64 a2_2] 88 (0, 0)) (by (with_reducible repeat (first | refine blk_drewN ?_ _ | refine blk_drew ?_ | refine blk_alloc ?_ _)); exact BK336.out) hb); have n3_ := Aside0.mk (below_step (by repeat (first | (with_reducible first | exact HB.out | apply below_alloc | apply pw_below_drewN | apply below_drew1 | refine below_set ?_ GE334.out | refine below_set ?_ GE335.out | refine below_set ?_ GE336.out) | exact HB.out)) hb); clear BK334; clear BK335; clear BK336; clear HB; have BK334 := n0_; have BK335 := n1_; have BK336 := n2_; have HB := n3_; clear n0_ n1_ n2_ n3_; (try clear hb); (try clear hb2); (try clear hk); (try clear hi)))
           go_meet
           case rel => exact ⟨_, (t344), (t345), (by first | rfl | (simp; done) | (simp [*]; done) | exact congrArg (Value.int _) (by unfold wrap64; omega)), (by first | rfl | (simp; done) | (simp [*]; done) | exact congrArg (Value.int _) (by unfold wrap64; omega)), H', ⟨by have := HJ5.out; have := HK2.out; first | omega | exact Nat.le_refl _⟩, ⟨by (with_reducible repeat (first | refine blk_drewN ?_ _ | refine blk_drew ?_ | refine blk_alloc ?_ _)); exact BK334.out⟩, ⟨by (with_reducible repeat (first | refine blk_drewN ?_ _ | refine blk_drew ?_ | refine blk_alloc ?_ _)); exact BK335.out⟩, ⟨by (with_reducible repeat (first | refine blk_drewN ?_ _ | refine blk_drew ?_ | refine blk_alloc ?_ _)); exact BK336.out⟩, ⟨by repeat (first | (with_reducible first | exact HB.out | apply below_alloc | apply pw_below_drewN | apply below_drew1 | refine below_set ?_ GE334.out | refine below_set ?_ GE335.out | refine below_set ?_ GE336.out) | exact HB.out)⟩⟩
          ·replace c67 := Bool.eq_false_iff.mpr c67
           subst c67
           have H1 : (score_Of.j2 k2 l0 a1 a3 0 0 a2_1 a2_2) = some (r1, r2, r3, r4) := by rw [if_neg (show ¬ (false = true) by decide)] at H; exact H
           clear H
           have H := H1
           clear H1
           have H' := Aside0.mk H
           clear H
           go_wp2
           go_meet
           case rel => exact ⟨_, (0), (0), (by first | rfl | (simp; done) | (simp [*]; done) | exact congrArg (Value.int _) (by unfold wrap64; omega)), (by first | rfl | (simp; done) | (simp [*]; done) | exact congrArg (Value.int _) (by unfold wrap64; omega)), H', ⟨by have := HJ5.out; have := HK2.out; first | omega | exact Nat.le_refl _⟩, ⟨by (with_reducible repeat (first | refine blk_drewN ?_ _ | refine blk_drew ?_ | refine blk_alloc ?_ _)); exact BK334.out⟩, ⟨by (with_reducible repeat (first | refine blk_drewN ?_ _ | refine blk_drew ?_ | refine blk_alloc ?_ _)); exact BK335.out⟩, ⟨by (with_reducible repeat (first | refine blk_drewN ?_ _ | refine blk_drew ?_ | refine blk_alloc ?_ _)); exact BK336.out⟩, ⟨by repeat (first | (with_reducible first | exact HB.out | apply below_alloc | apply pw_below_drewN | apply below_drew1 | refine below_set ?_ GE334.out | refine below_set ?_ GE335.out | refine below_set ?_ GE336.out) | exact HB.out)⟩⟩
         case rest =>
          clear HC66
          try clear c1
          try clear c2
          try clear p2
          try clear c3
          try clear p3
          try clear q3
          try clear hx3
          try clear c4
          try clear c5
          try clear c6
          try clear p6
          try clear c9
          try clear c12
          try clear c13
          try clear c15
          try clear c15b0
          try clear c16
          try clear c16b0
          try clear c18
          try clear c19
          try clear c19b0
          try clear c20
          try clear c21
          try clear c24
          try clear c25
          try clear c28
          try clear c29
          try clear c32
          try clear c33
          try clear c34
          try clear p34
          try clear q34
          try clear hx34
          try clear c37
          try clear c37b0
          try clear c37b1
          try clear c38
          try clear c38b0
          try clear c38b1
          try clear q39
          try clear c40
          try clear c40b0
          try clear c41
          try clear c41b0
          try clear c42
          try clear c42b0
          try clear c43
          try clear c43b0
          try clear c44
          try clear c45
          try clear c46
          try clear c47
          try clear c49
          try clear c50
          try clear c52
          try clear c52b0
          try clear c54
          try clear c55
          try clear c56
          try clear c58
          try clear c59
          try clear c62
          try clear c63
          try clear c64
          try clear p64
          try clear c67
          try clear hcz10_0
          try clear hcz10_1
          try clear hcz10_2
          try clear hcz14_0
          try clear hcz14_1
          try clear hcz22_0
          try clear hcz22_1
          try clear hcz26_0
          try clear hcz26_1
          try clear hcz30_0
          try clear hcz30_1
          try clear hcz35_0
          try clear hcz35_1
          try clear hcz35_2
          try clear hcz48_0
          try clear hcz48_1
          try clear hcz48_2
          try clear hcz48_3
          try clear hcz48_4
          try clear hcz48_5
          try clear hcz48_6
          try clear hcz48_7
          try clear hcz48_8
          try clear hcz48_9
          try clear hcz51_0
          try clear hcz51_1
          try clear hcz51_2
          try clear hcz57_0
          try clear hcz57_1
          try clear hcz57_2
          try clear hcz57_3
          try clear hcz57_4
          try clear hcz57_5
          try clear hcz57_6
          try clear hcz57_7
          try clear hcz57_8
          try clear hcz57_9
          try clear hcz60_0
          try clear hcz60_1
          try clear hcz60_2
          try clear hcz65_0
          try clear hcz65_1
          try clear hcz65_2
          try clear hcz65_3
          try clear hcz65_4
          try clear hcz65_5
          try clear hcz65_6
          try clear hcz65_7
          try clear hcz65_8
          try clear hcz65_9
          try clear hfz10_0
          try clear hfz10_1
          try clear hfz10_2
          try clear hfz14_0
          try clear hfz14_1
          try clear hfz22_0
          try clear hfz22_1
          try clear hfz26_0
          try clear hfz26_1
          try clear hfz30_0
          try clear hfz30_1
          try clear hfz35_0
          try clear hfz35_1
          try clear hfz35_2
          try clear hfz48_0
          try clear hfz48_1
          try clear hfz48_2
          try clear hfz48_3
          try clear hfz48_4
          try clear hfz48_5
          try clear hfz48_6
          try clear hfz48_7
          try clear hfz48_8
          try clear hfz48_9
          try clear hfz51_0
          try clear hfz51_1
          try clear hfz51_2
          try clear hfz57_0
          try clear hfz57_1
          try clear hfz57_2
          try clear hfz57_3
          try clear hfz57_4
          try clear hfz57_5
          try clear hfz57_6
          try clear hfz57_7
          try clear hfz57_8
          try clear hfz57_9
          try clear hfz60_0
          try clear hfz60_1
          try clear hfz60_2
          try clear hfz65_0
          try clear hfz65_1
          try clear hfz65_2
          try clear hfz65_3
          try clear hfz65_4
          try clear hfz65_5
          try clear hfz65_6
          try clear hfz65_7
          try clear hfz65_8
          try clear hfz65_9
          try clear hx342_0
          try clear hx342_1
          try clear hx342_2
          try clear hx342_3
          try clear hx342_4
          try clear hx342_5
          try clear hx342_6
          try clear hx342_7
          try clear hx342_8
          try clear hx342_9
          try clear p2
          try clear p342
          try clear p6
          try clear q3
          try clear q342
          try clear q39
          obtain ⟨kq, x15_65, x16_65, rfl, rfl, HA, HJ65, BK334, BK335, BK336, HB⟩ := hcut
          cases kq with
          | zero => exact absurd HA.out (by simp [score_Of.j2])
          | succ kj65 =>
           have H := HA.out
           clear HA
           simp only [score_Of.j2] at H
           replace H := Option.bind_eq_some_iff.mp H
           obtain ⟨t346, A720, H⟩ := H
           replace H : ((score_weights_product.f a2_1 a2_2).bind fun t347 => ((score_weights_product.f a2_1 a2_2).bind fun t348 => ((score_weights_sum.f a2_1 a2_2).bind fun t349 => (if 0 ≤ a1 then (if a1 < (l0.length : Int) then (score_Of.j3 kj65 l0 a1 x15_65 x16_65 ((rd_T70 l0 a1).f1) a2_1 a2_2 (wrap64 (t346 * (wrap64 (x16_65 - x15_65)))) (wrap64 (t347 * a3)) (wrap64 (a3 * (wrap64 ((wrap64 (2 * t348)) + (wrap64 (t349 * (mx a2_1 a2_2)))))))) else (none)) else (none))))) = some (r1, r2, r3, r4) := H
           have A72 := Aside0.mk A720
           clear A720
           replace H := Option.bind_eq_some_iff.mp H
           obtain ⟨t347, A730, H⟩ := H
           replace H : ((score_weights_product.f a2_1 a2_2).bind fun t348 => ((score_weights_sum.f a2_1 a2_2).bind fun t349 => (if 0 ≤ a1 then (if a1 < (l0.length : Int) then (score_Of.j3 kj65 l0 a1 x15_65 x16_65 ((rd_T70 l0 a1).f1) a2_1 a2_2 (wrap64 (t346 * (wrap64 (x16_65 - x15_65)))) (wrap64 (t347 * a3)) (wrap64 (a3 * (wrap64 ((wrap64 (2 * t348)) + (wrap64 (t349 * (mx a2_1 a2_2)))))))) else (none)) else (none)))) = some (r1, r2, r3, r4) := H
           have A73 := Aside0.mk A730
           clear A730
           replace H := Option.bind_eq_some_iff.mp H
           obtain ⟨t348, A740, H⟩ := H
           replace H : ((score_weights_sum.f a2_1 a2_2).bind fun t349 => (if 0 ≤ a1 then (if a1 < (l0.length : Int) then (score_Of.j3 kj65 l0 a1 x15_65 x16_65 ((rd_T70 l0 a1).f1) a2_1 a2_2 (wrap64 (t346 * (wrap64 (x16_65 - x15_65)))) (wrap64 (t347 * a3)) (wrap64 (a3 * (wrap64 ((wrap64 (2 * t348)) + (wrap64 (t349 * (mx a2_1 a2_2)))))))) else (none)) else (none))) = some (r1, r2, r3, r4) := H
           have A74 := Aside0.mk A740
           clear A740
           replace H := Option.bind_eq_some_iff.mp H
           obtain ⟨t349, A750, H⟩ := H
           replace H : (if 0 ≤ a1 then (if a1 < (l0.length : Int) then (score_Of.j3 kj65 l0 a1 x15_65 x16_65 ((rd_T70 l0 a1).f1) a2_1 a2_2 (wrap64 (t346 * (wrap64 (x16_65 - x15_65)))) (wrap64 (t347 * a3)) (wrap64 (a3 * (wrap64 ((wrap64 (2 * t348)) + (wrap64 (t349 * (mx a2_1 a2_2)))))))) else (none)) else (none)) = some (r1, r2, r3, r4) := H
           have A75 := Aside0.mk A750
           clear A750
           obtain ⟨ji76, hji76⟩ : ∃ j_ : Int, (mx a2_1 a2_2) = j_ := ⟨_, rfl⟩
           replace H : (if 0 ≤ a1 then (if a1 < (l0.length : Int) then (score_Of.j3 kj65 l0 a1 x15_65 x16_65 ((rd_T70 l0 a1).f1) a2_1 a2_2 (wrap64 (t346 * (wrap64 (x16_65 - x15_65)))) (wrap64 (t347 * a3)) (wrap64 (a3 * (wrap64 ((wrap64 (2 * t348)) + (wrap64 (t349 * (ji76)))))))) else (none)) else (none)) = some (r1, r2, r3, r4) := by first | (rw [hji76] at H; exact H) | (simp only [hji76] at H ⊢; exact H)
           (try rw [hji76] at A72)
           (try rw [hji76] at A73)
           (try rw [hji76] at A74)
           (try rw [hji76] at A75)
           have hji76_ : (if a2_1 < a2_2 then a2_2 else a2_1) = ji76 := hji76
           have HC77 := Aside0.mk H
           clear H
           try go_wp2
           have n0_ := Aside0.mk (blk_drew BK334.out)
           have n1_ := Aside0.mk (blk_drew BK335.out)
           have n2_ := Aside0.mk (blk_drew BK336.out)
           have n3_ := Aside0.mk (below_drew1 HB.out)
           clear BK334
           clear BK335
           clear BK336
           clear HB
           have BK334 := n0_
           have BK335 := n1_
           have BK336 := n2_
           have HB := n3_
           clear n0_ n1_ n2_ n3_
           refine start_ (n := 27) (S := fun w' => w'.cell? ⟨gb336, 0, none⟩ = some (.int .i64 a2_1) ∧ w'.cell? ⟨gb336, 1, none⟩ = some (.int .i64 a2_2)) (ds := []) #[false, false, false, false, false, false, false, false, false, false, false, false, false, false, false, false, false, false, false, false, false, false, false, false, false, false, false] (by kernel_rfl) rfl rfl ⟨(blk_cell BK336.out 0).trans rfl, (blk_cell BK336.out 1).trans rfl⟩ (fun hHeld => ?_); refine with_tabW score_Of.tab13 score_Of.bits13 (fun HT_ HW_ => ?_)
           generalize wc.drew = w78 at BK334 BK335 BK336 HB hHeld ⊢
           refine pure_ (i := 2) (N := some 77) (v := ?_) (a' := ?_) #[false, false, true, false, false, false, false, false, false, false, false, false, false, false, false, false, false, false, false, false, false, false, false, false, false, false, false] rfl rfl (any_of HT_.out (by kernel_rfl)) (fun _ _ _ h => h) (Or.inl ⟨by rfl, ?_⟩) ?_ ?_
           rotate_left
           ·intro w'
            go_simp
            with_reducible rfl
           rotate_left
           ·simp only [Act.put, List.setIfInBounds_toArray, List.set_cons_zero, List.set_cons_succ, i64_w, i32_w]
            rfl
           refine pure_ (i := 3) (N := some 78) (v := ?_) (a' := ?_) #[false, false, true, true, false, false, false, false, false, false, false, false, false, false, false, false, false, false, false, false, false, false, false, false, false, false, false] rfl rfl (any_of HT_.out (by kernel_rfl)) (fun _ _ _ h => h) (Or.inl ⟨by rfl, ?_⟩) ?_ ?_
           rotate_left
           ·intro w'
            go_simp
            with_reducible rfl
           rotate_left
           ·simp only [Act.put, List.setIfInBounds_toArray, List.set_cons_zero, List.set_cons_succ, i64_w, i32_w]
            rfl
           refine pure_ (i := 4) (N := some 79) (v := ?_) (a' := ?_) #[false, false, true, true, true, false, false, false, false, false, false, false, false, false, false, false, false, false, false, false, false, false, false, false, false, false, false] rfl rfl (any_of HT_.out (by kernel_rfl)) (fun _ _ _ h => h) (Or.inl ⟨by rfl, ?_⟩) ?_ ?_
           rotate_left
           ·intro w'
            go_simp
            with_reducible rfl
           rotate_left
           ·simp only [Act.put, List.setIfInBounds_toArray, List.set_cons_zero, List.set_cons_succ, i64_w, i32_w]
            rfl
           refine pure_ (i := 8) (N := some 83) (v := ?_) (a' := ?_) #[false, false, true, true, true, false, false, false, true, false, false, false, false, false, false, false, false, false, false, false, false, false, false, false, false, false, false] rfl rfl (any_of HT_.out (by kernel_rfl)) (fun _ _ _ h => h) (Or.inl ⟨by rfl, ?_⟩) ?_ ?_
           rotate_left
           ·intro w'
            go_simp
            with_reducible rfl
           rotate_left
           ·simp only [Act.put, List.setIfInBounds_toArray, List.set_cons_zero, List.set_cons_succ, i64_w, i32_w]
            rfl
           refine pure_ (i := 10) (N := some 85) (v := ?_) (a' := ?_) #[false, false, true, true, true, false, false, false, true, false, true, false, false, false, false, false, false, false, false, false, false, false, false, false, false, false, false] rfl rfl (any_of HT_.out (by kernel_rfl)) (fun _ _ _ h => h) (Or.inl ⟨by rfl, ?_⟩) ?_ ?_
           rotate_left
           ·intro w'
            go_simp
            with_reducible rfl
           rotate_left
           ·simp only [Act.put, List.setIfInBounds_toArray, List.set_cons_zero, List.set_cons_succ, i64_w, i32_w]
            rfl
           refine pure_ (i := 16) (N := some 91) (v := ?_) (a' := ?_) #[false, false, true, true, true, false, false, false, true, false, true, false, false, false, false, false, true, false, false, false, false, false, false, false, false, false, false] rfl rfl (any_of HT_.out (by kernel_rfl)) (fun _ _ _ h => h) (Or.inl ⟨by rfl, ?_⟩) ?_ ?_
           rotate_left
           ·intro w'
            go_simp
            with_reducible rfl
           rotate_left
           ·simp only [Act.put, List.setIfInBounds_toArray, List.set_cons_zero, List.set_cons_succ, i64_w, i32_w]
            rfl
           refine pure_ (i := 18) (N := some 93) (v := ?_) (a' := ?_) #[false, false, true, true, true, false, false, false, true, false, true, false, false, false, false, false, true, false, true, false, false, false, false, false, false, false, false] rfl rfl (any_of HT_.out (by kernel_rfl)) (fun _ _ _ h => h) (Or.inl ⟨by rfl, ?_⟩) ?_ ?_
           rotate_left
           ·intro w'
            go_simp
            with_reducible rfl
           rotate_left
           ·simp only [Act.put, List.setIfInBounds_toArray, List.set_cons_zero, List.set_cons_succ, i64_w, i32_w]
            rfl
           refine take_ (i := 0) (N := some 75) (v := ?_) (a' := ?_) #[true, false, true, true, true, false, false, false, true, false, true, false, false, false, false, false, true, false, true, false, false, false, false, false, false, false, false] rfl rfl (take_ofW HT_.out HW_.out (by kernel_rfl)) (fun _ _ _ h => h) (Or.inl ⟨by rfl, ?_⟩) hHeld ?_ ?_
           rotate_left
           ·rintro w' ⟨s0, s1⟩
            go_simp
            with_reducible rfl
           rotate_left
           ·simp only [Act.put, List.setIfInBounds_toArray, List.set_cons_zero, List.set_cons_succ, i64_w, i32_w]
            rfl
           refine take_ (i := 6) (N := some 81) (v := ?_) (a' := ?_) #[true, false, true, true, true, false, true, false, true, false, true, false, false, false, false, false, true, false, true, false, false, false, false, false, false, false, false] rfl rfl (take_ofW HT_.out HW_.out (by kernel_rfl)) (fun _ _ _ h => h) (Or.inl ⟨by rfl, ?_⟩) hHeld ?_ ?_
           rotate_left
           ·rintro w' ⟨s0, s1⟩
            go_simp
            with_reducible rfl
           rotate_left
           ·simp only [Act.put, List.setIfInBounds_toArray, List.set_cons_zero, List.set_cons_succ, i64_w, i32_w]
            rfl
           refine take_ (i := 11) (N := some 86) (v := ?_) (a' := ?_) #[true, false, true, true, true, false, true, false, true, false, true, true, false, false, false, false, true, false, true, false, false, false, false, false, false, false, false] rfl rfl (take_ofW HT_.out HW_.out (by kernel_rfl)) (fun _ _ _ h => h) (Or.inl ⟨by rfl, ?_⟩) hHeld ?_ ?_
           rotate_left
           ·rintro w' ⟨s0, s1⟩
            go_simp
            with_reducible rfl
           rotate_left
           ·simp only [Act.put, List.setIfInBounds_toArray, List.set_cons_zero, List.set_cons_succ, i64_w, i32_w]
            rfl
           refine take_ (i := 14) (N := some 89) (v := ?_) (a' := ?_) #[true, false, true, true, true, false, true, false, true, false, true, true, false, false, true, false, true, false, true, false, false, false, false, false, false, false, false] rfl rfl (take_ofW HT_.out HW_.out (by kernel_rfl)) (fun _ _ _ h => h) (Or.inl ⟨by rfl, ?_⟩) hHeld ?_ ?_
           rotate_left
           ·rintro w' ⟨s0, s1⟩
            go_simp
            with_reducible rfl
           rotate_left
           ·simp only [Act.put, List.setIfInBounds_toArray, List.set_cons_zero, List.set_cons_succ, i64_w, i32_w]
            rfl
           refine take_ (i := 17) (N := some 92) (v := ?_) (a' := ?_) #[true, false, true, true, true, false, true, false, true, false, true, true, false, false, true, false, true, true, true, false, false, false, false, false, false, false, false] rfl rfl (take_ofW HT_.out HW_.out (by kernel_rfl)) (fun _ _ _ h => h) (Or.inl ⟨by rfl, ?_⟩) hHeld ?_ ?_
           rotate_left
           ·rintro w' ⟨s0, s1⟩
            go_simp
            with_reducible rfl
           rotate_left
           ·simp only [Act.put, List.setIfInBounds_toArray, List.set_cons_zero, List.set_cons_succ, i64_w, i32_w]
            rfl
           refine take_ (i := 19) (N := some 94) (v := ?_) (a' := ?_) #[true, false, true, true, true, false, true, false, true, false, true, true, false, false, true, false, true, true, true, true, false, false, false, false, false, false, false] rfl rfl (take_ofW HT_.out HW_.out (by kernel_rfl)) (fun _ _ _ h => h) (Or.inl ⟨by rfl, ?_⟩) hHeld ?_ ?_
           rotate_left
           ·rintro w' ⟨s0, s1⟩
            go_simp
            with_reducible rfl
           rotate_left
           ·simp only [Act.put, List.setIfInBounds_toArray, List.set_cons_zero, List.set_cons_succ, i64_w, i32_w]
            rfl
           refine pure_ (i := 20) (N := some 95) (v := ?_) (a' := ?_) #[true, false, true, true, true, false, true, false, true, false, true, true, false, false, true, false, true, true, true, true, true, false, false, false, false, false, false] rfl rfl (any_of HT_.out (by kernel_rfl)) (fun _ _ _ h => h) (Or.inl ⟨by rfl, ?_⟩) ?_ ?_
           rotate_left
           ·intro w'
            go_simp
            with_reducible rfl
           rotate_left
           ·simp only [Act.put, List.setIfInBounds_toArray, List.set_cons_zero, List.set_cons_succ, i64_w, i32_w]
            rfl
           refine join_ (σ := Nat) 1 #[true, true, true, true, true, true, true, true, true, true, true, true, true, true, true, true, true, true, true, true, true, true, true, true, true, true, false] (fun s_ => [(76, .int .i64 t346), (82, .int .i64 t347), (87, .int .i64 t348), (90, .int .i64 t349), (17, .pointer (some ⟨s_, 0, none⟩)), (80, .int .i64 (wrap64 (t346 * (wrap64 (x16_65 - x15_65))))), (84, .int .i64 (wrap64 (t347 * a3))), (88, .int .i64 (wrap64 (2 * t348))), (96, .int .i64 (wrap64 (t349 * (ji76)))), (97, .int .i64 (wrap64 ((wrap64 (2 * t348)) + (wrap64 (t349 * (ji76)))))), (98, .int .i64 (wrap64 (a3 * (wrap64 ((wrap64 (2 * t348)) + (wrap64 (t349 * (ji76)))))))), (99, .agg #[.int .i64 (wrap64 (t346 * (wrap64 (x16_65 - x15_65)))), .int .i64 (wrap64 (t347 * a3)), .int .i64 (wrap64 (a3 * (wrap64 ((wrap64 (2 * t348)) + (wrap64 (t349 * (ji76)))))))])]) (fun s_ w' => (w'.cell? ⟨gb336, 0, none⟩ = some (.int .i64 a2_1) ∧ w'.cell? ⟨gb336, 1, none⟩ = some (.int .i64 a2_2)) ∧ (w'.heap[gb334]? = some (.cells #[.int .i64 a2_0, .int .i64 a2_1, .int .i64 a2_2] 65 (0, 0))) ∧ (w'.heap[gb335]? = some (.cells #[.int .i64 x336000_2, .int .i64 x336001_2, .int .i64 x336002_2] 50 (0, 0))) ∧ (w'.heap[gb336]? = some (.cells #[.int .i64 a2_1, .int .i64 a2_2] 88 (0, 0))) ∧ (w'.heap[s_]? = some (.cells #[.int .i64 0, .int .i64 0, .int .i64 0] 50 (0, 0))) ∧ (w.heap.size ≤ s_) ∧ (w.heap.size ≤ s_) ∧ (gb334 ≠ s_) ∧ (s_ ≠ gb334) ∧ (gb335 ≠ s_) ∧ (s_ ≠ gb335) ∧ (gb336 ≠ s_) ∧ (s_ ≠ gb336) ∧ (Below w.heap.size w w')) ?_ ?_
           rotate_left
           ·intro hJ1_7_12_15_25
            refine join_ (σ := Unit) 2 #[true, true, true, true, true, true, true, true, true, true, true, true, true, true, true, true, true, true, true, true, true, true, true, true, true, false, false] (fun s_ => [(76, .int .i64 t346), (82, .int .i64 t347), (87, .int .i64 t348), (90, .int .i64 t349), (80, .int .i64 (wrap64 (t346 * (wrap64 (x16_65 - x15_65))))), (84, .int .i64 (wrap64 (t347 * a3))), (88, .int .i64 (wrap64 (2 * t348))), (96, .int .i64 (wrap64 (t349 * (ji76)))), (97, .int .i64 (wrap64 ((wrap64 (2 * t348)) + (wrap64 (t349 * (ji76)))))), (98, .int .i64 (wrap64 (a3 * (wrap64 ((wrap64 (2 * t348)) + (wrap64 (t349 * (ji76)))))))), (99, .agg #[.int .i64 (wrap64 (t346 * (wrap64 (x16_65 - x15_65)))), .int .i64 (wrap64 (t347 * a3)), .int .i64 (wrap64 (a3 * (wrap64 ((wrap64 (2 * t348)) + (wrap64 (t349 * (ji76)))))))])]) (fun s_ w' => (w'.cell? ⟨gb336, 0, none⟩ = some (.int .i64 a2_1) ∧ w'.cell? ⟨gb336, 1, none⟩ = some (.int .i64 a2_2)) ∧ (w'.heap[gb334]? = some (.cells #[.int .i64 a2_0, .int .i64 a2_1, .int .i64 a2_2] 65 (0, 0))) ∧ (w'.heap[gb335]? = some (.cells #[.int .i64 x336000_2, .int .i64 x336001_2, .int .i64 x336002_2] 50 (0, 0))) ∧ (w'.heap[gb336]? = some (.cells #[.int .i64 a2_1, .int .i64 a2_2] 88 (0, 0))) ∧ (Below w.heap.size w w')) ?_ ?_
            rotate_left
            ·intro hJ1_7_12_15
             refine join_ (σ := Nat) 6 #[true, true, true, true, true, true, true, true, true, true, true, true, true, true, true, false, true, true, true, true, true, false, false, false, false, true, false] (fun s_ => [(76, .int .i64 t346), (82, .int .i64 t347), (87, .int .i64 t348), (17, .pointer (some ⟨s_, 0, none⟩)), (80, .int .i64 (wrap64 (t346 * (wrap64 (x16_65 - x15_65))))), (84, .int .i64 (wrap64 (t347 * a3))), (88, .int .i64 (wrap64 (2 * t348)))]) (fun s_ w' => (w'.cell? ⟨gb336, 0, none⟩ = some (.int .i64 a2_1) ∧ w'.cell? ⟨gb336, 1, none⟩ = some (.int .i64 a2_2)) ∧ (w'.heap[gb334]? = some (.cells #[.int .i64 a2_0, .int .i64 a2_1, .int .i64 a2_2] 65 (0, 0))) ∧ (w'.heap[gb335]? = some (.cells #[.int .i64 x336000_2, .int .i64 x336001_2, .int .i64 x336002_2] 50 (0, 0))) ∧ (w'.heap[gb336]? = some (.cells #[.int .i64 a2_1, .int .i64 a2_2] 88 (0, 0))) ∧ (w'.heap[s_]? = some (.cells #[.int .i64 0, .int .i64 0, .int .i64 0] 50 (0, 0))) ∧ (w.heap.size ≤ s_) ∧ (w.heap.size ≤ s_) ∧ (gb334 ≠ s_) ∧ (s_ ≠ gb334) ∧ (gb335 ≠ s_) ∧ (s_ ≠ gb335) ∧ (gb336 ≠ s_) ∧ (s_ ≠ gb336) ∧ (Below w.heap.size w w')) ?_ ?_
             rotate_left
             ·intro hJ1_7_12_25
              refine join_ (σ := Unit) 7 #[true, true, true, true, true, true, true, true, true, true, true, true, true, true, true, false, true, true, true, true, true, false, false, false, false, false, false] (fun s_ => [(76, .int .i64 t346), (82, .int .i64 t347), (87, .int .i64 t348), (80, .int .i64 (wrap64 (t346 * (wrap64 (x16_65 - x15_65))))), (84, .int .i64 (wrap64 (t347 * a3))), (88, .int .i64 (wrap64 (2 * t348)))]) (fun s_ w' => (w'.cell? ⟨gb336, 0, none⟩ = some (.int .i64 a2_1) ∧ w'.cell? ⟨gb336, 1, none⟩ = some (.int .i64 a2_2)) ∧ (w'.heap[gb334]? = some (.cells #[.int .i64 a2_0, .int .i64 a2_1, .int .i64 a2_2] 65 (0, 0))) ∧ (w'.heap[gb335]? = some (.cells #[.int .i64 x336000_2, .int .i64 x336001_2, .int .i64 x336002_2] 50 (0, 0))) ∧ (w'.heap[gb336]? = some (.cells #[.int .i64 a2_1, .int .i64 a2_2] 88 (0, 0))) ∧ (Below w.heap.size w w')) ?_ ?_
              rotate_left
              ·intro hJ1_7_12
               refine join_ (σ := Nat) 8 #[true, true, true, true, true, true, true, true, true, true, true, true, false, false, true, false, true, true, true, true, true, false, false, false, false, true, false] (fun s_ => [(76, .int .i64 t346), (82, .int .i64 t347), (17, .pointer (some ⟨s_, 0, none⟩)), (80, .int .i64 (wrap64 (t346 * (wrap64 (x16_65 - x15_65))))), (84, .int .i64 (wrap64 (t347 * a3)))]) (fun s_ w' => (w'.cell? ⟨gb336, 0, none⟩ = some (.int .i64 a2_1) ∧ w'.cell? ⟨gb336, 1, none⟩ = some (.int .i64 a2_2)) ∧ (w'.heap[gb334]? = some (.cells #[.int .i64 a2_0, .int .i64 a2_1, .int .i64 a2_2] 65 (0, 0))) ∧ (w'.heap[gb335]? = some (.cells #[.int .i64 x336000_2, .int .i64 x336001_2, .int .i64 x336002_2] 50 (0, 0))) ∧ (w'.heap[gb336]? = some (.cells #[.int .i64 a2_1, .int .i64 a2_2] 88 (0, 0))) ∧ (w'.heap[s_]? = some (.cells #[.int .i64 0, .int .i64 0, .int .i64 0] 50 (0, 0))) ∧ (w.heap.size ≤ s_) ∧ (w.heap.size ≤ s_) ∧ (gb334 ≠ s_) ∧ (s_ ≠ gb334) ∧ (gb335 ≠ s_) ∧ (s_ ≠ gb335) ∧ (gb336 ≠ s_) ∧ (s_ ≠ gb336) ∧ (Below w.heap.size w w')) ?_ ?_
               rotate_left
               ·intro hJ1_7_25
                refine join_ (σ := Unit) 9 #[true, true, true, true, true, true, true, true, true, true, true, true, false, false, true, false, true, true, true, true, true, false, false, false, false, false, false] (fun s_ => [(76, .int .i64 t346), (82, .int .i64 t347), (80, .int .i64 (wrap64 (t346 * (wrap64 (x16_65 - x15_65))))), (84, .int .i64 (wrap64 (t347 * a3)))]) (fun s_ w' => (w'.cell? ⟨gb336, 0, none⟩ = some (.int .i64 a2_1) ∧ w'.cell? ⟨gb336, 1, none⟩ = some (.int .i64 a2_2)) ∧ (w'.heap[gb334]? = some (.cells #[.int .i64 a2_0, .int .i64 a2_1, .int .i64 a2_2] 65 (0, 0))) ∧ (w'.heap[gb335]? = some (.cells #[.int .i64 x336000_2, .int .i64 x336001_2, .int .i64 x336002_2] 50 (0, 0))) ∧ (w'.heap[gb336]? = some (.cells #[.int .i64 a2_1, .int .i64 a2_2] 88 (0, 0))) ∧ (Below w.heap.size w w')) ?_ ?_
                rotate_left
                ·intro hJ1_7
                 refine join_ (σ := Nat) 10 #[true, true, true, true, true, true, true, false, true, false, true, true, false, false, true, false, true, true, true, true, true, false, false, false, false, true, false] (fun s_ => [(76, .int .i64 t346), (17, .pointer (some ⟨s_, 0, none⟩)), (80, .int .i64 (wrap64 (t346 * (wrap64 (x16_65 - x15_65)))))]) (fun s_ w' => (w'.cell? ⟨gb336, 0, none⟩ = some (.int .i64 a2_1) ∧ w'.cell? ⟨gb336, 1, none⟩ = some (.int .i64 a2_2)) ∧ (w'.heap[gb334]? = some (.cells #[.int .i64 a2_0, .int .i64 a2_1, .int .i64 a2_2] 65 (0, 0))) ∧ (w'.heap[gb335]? = some (.cells #[.int .i64 x336000_2, .int .i64 x336001_2, .int .i64 x336002_2] 50 (0, 0))) ∧ (w'.heap[gb336]? = some (.cells #[.int .i64 a2_1, .int .i64 a2_2] 88 (0, 0))) ∧ (w'.heap[s_]? = some (.cells #[.int .i64 0, .int .i64 0, .int .i64 0] 50 (0, 0))) ∧ (w.heap.size ≤ s_) ∧ (w.heap.size ≤ s_) ∧ (gb334 ≠ s_) ∧ (s_ ≠ gb334) ∧ (gb335 ≠ s_) ∧ (s_ ≠ gb335) ∧ (gb336 ≠ s_) ∧ (s_ ≠ gb336) ∧ (Below w.heap.size w w')) ?_ ?_
                 rotate_left
                 ·intro hJ1_25
                  refine join_ (σ := Unit) 11 #[true, true, true, true, true, true, true, false, true, false, true, true, false, false, true, false, true, true, true, true, true, false, false, false, false, false, false] (fun s_ => [(76, .int .i64 t346), (80, .int .i64 (wrap64 (t346 * (wrap64 (x16_65 - x15_65)))))]) (fun s_ w' => (w'.cell? ⟨gb336, 0, none⟩ = some (.int .i64 a2_1) ∧ w'.cell? ⟨gb336, 1, none⟩ = some (.int .i64 a2_2)) ∧ (w'.heap[gb334]? = some (.cells #[.int .i64 a2_0, .int .i64 a2_1, .int .i64 a2_2] 65 (0, 0))) ∧ (w'.heap[gb335]? = some (.cells #[.int .i64 x336000_2, .int .i64 x336001_2, .int .i64 x336002_2] 50 (0, 0))) ∧ (w'.heap[gb336]? = some (.cells #[.int .i64 a2_1, .int .i64 a2_2] 88 (0, 0))) ∧ (Below w.heap.size w w')) ?_ ?_
                  rotate_left
                  ·intro hJ1
                   refine join_ (σ := Nat) 12 #[true, false, true, true, true, false, true, false, true, false, true, true, false, false, true, false, true, true, true, true, true, false, false, false, false, true, false] (fun s_ => [(17, .pointer (some ⟨s_, 0, none⟩))]) (fun s_ w' => (w'.cell? ⟨gb336, 0, none⟩ = some (.int .i64 a2_1) ∧ w'.cell? ⟨gb336, 1, none⟩ = some (.int .i64 a2_2)) ∧ (w'.heap[gb334]? = some (.cells #[.int .i64 a2_0, .int .i64 a2_1, .int .i64 a2_2] 65 (0, 0))) ∧ (w'.heap[gb335]? = some (.cells #[.int .i64 x336000_2, .int .i64 x336001_2, .int .i64 x336002_2] 50 (0, 0))) ∧ (w'.heap[gb336]? = some (.cells #[.int .i64 a2_1, .int .i64 a2_2] 88 (0, 0))) ∧ (w'.heap[s_]? = some (.cells #[.int .i64 0, .int .i64 0, .int .i64 0] 50 (0, 0))) ∧ (w.heap.size ≤ s_) ∧ (w.heap.size ≤ s_) ∧ (gb334 ≠ s_) ∧ (s_ ≠ gb334) ∧ (gb335 ≠ s_) ∧ (s_ ≠ gb335) ∧ (gb336 ≠ s_) ∧ (s_ ≠ gb336) ∧ (Below w.heap.size w w')) ?_ ?_
                   rotate_left
                   ·intro hJ25
                    refine two_ (i := 1) (j := 25) (Ni := some 76) (Nj := some 17) #[true, true, true, true, true, false, true, false, true, false, true, true, false, false, true, false, true, true, true, true, true, false, false, false, false, false, false] #[true, false, true, true, true, false, true, false, true, false, true, true, false, false, true, false, true, true, true, true, true, false, false, false, false, true, false] rfl rfl rfl rfl (two_of HT_.out (by kernel_rfl)) (by decide) (by decide) (fun K hK => ?_) (fun K hK => ?_)
                    ·skip
                     refine goes_ Try.func45 (by kernel_rfl) rfl #[.agg #[.int .i64 a2_1, .int .i64 a2_2]] (by rfl) rfl rfl (by (try simp only [List.map_toArray, List.map_cons, List.map_nil]); first | done | rfl | (simp only [List.length_drop, List.length_take]; rfl)) ?_
                     with_reducible refine (score_weights_product.calls a2_1 a2_2 t346 _ A72.out).mono ?_
                     rintro e w79 ⟨rfl, hb⟩
                     refine ⟨_, rfl, ?_⟩
                     have n0_ := Aside0.mk (blk_below (g := gb334) (o := .cells #[.int .i64 a2_0, .int .i64 a2_1, .int .i64 a2_2] 65 (0, 0)) (by (with_reducible repeat (first | refine blk_drewN ?_ _ | refine blk_drew ?_ | refine blk_alloc ?_ _)); exact BK334.out) hb)
                     have n1_ := Aside0.mk (blk_below (g := gb335) (o := .cells #[.int .i64 x336000_2, .int .i64 x336001_2, .int .i64 x336002_2] 50 (0, 0)) (by (with_reducible repeat (first | refine blk_drewN ?_ _ | refine blk_drew ?_ | refine blk_alloc ?_ _)); exact BK335.out) hb)
                     have n2_ := Aside0.mk (blk_below (g := gb336) (o := .cells #[.int .i64 a2_1, .int .i64 a2_2] 88 (0, 0)) (by (with_reducible repeat (first | refine blk_drewN ?_ _ | refine blk_drew ?_ | refine blk_alloc ?_ _)); exact BK336.out) hb)
                     have n3_ := Aside0.mk (below_step (by repeat (first | (with_reducible first | exact HB.out | apply below_alloc | apply pw_below_drewN | apply below_drew1 | refine below_set ?_ GE334.out | refine below_set ?_ GE335.out | refine below_set ?_ GE336.out) | exact HB.out)) hb)
                     clear BK334
                     clear BK335
                     clear BK336
                     clear HB
                     have BK334 := n0_
                     have BK335 := n1_
                     have BK336 := n2_
                     have HB := n3_
                     clear n0_ n1_ n2_ n3_
                     (try clear hb)
                     (try clear hb2)
                     (try clear hk)
                     (try clear hi)
                     refine hK.out _ _ ⟨(blk_cell BK336.out 0).trans rfl, (blk_cell BK336.out 1).trans rfl⟩ (fun hHeld => ?_)
                     clear hK K
                     refine norm_ (a' := ?_) ?_ ?_
                     rotate_left
                     ·show Act.put _ (some 76) _ = _
                      simp only [Act.put, List.setIfInBounds_toArray, List.set_cons_zero, List.set_cons_succ, i64_w, i32_w]
                      rfl
                     refine pure_ (i := 5) (N := some 80) (v := ?_) (a' := ?_) #[true, true, true, true, true, true, true, false, true, false, true, true, false, false, true, false, true, true, true, true, true, false, false, false, false, false, false] rfl rfl (any_of HT_.out (by kernel_rfl)) (fun _ _ _ h => h) (Or.inl ⟨by rfl, ?_⟩) ?_ ?_
                     rotate_left
                     ·intro w'
                      go_simp
                      with_reducible rfl
                     rotate_left
                     ·simp only [Act.put, List.setIfInBounds_toArray, List.set_cons_zero, List.set_cons_succ, i64_w, i32_w]
                      rfl
                     exact norm_ (by first | (simp only [putAll, Act.put, List.setIfInBounds_toArray, List.set_cons_zero, List.set_cons_succ]; done) | (simp only [putAll, Act.put, List.setIfInBounds_toArray, List.set_cons_zero, List.set_cons_succ]; rfl)) (hJ1 () _ ⟨hHeld, (by (with_reducible repeat (first | refine blk_drewN ?_ _ | refine blk_drew ?_ | refine blk_alloc ?_ _)); exact BK334.out), (by (with_reducible repeat (first | refine blk_drewN ?_ _ | refine blk_drew ?_ | refine blk_alloc ?_ _)); exact BK335.out), (by (with_reducible repeat (first | refine blk_drewN ?_ _ | refine blk_drew ?_ | refine blk_alloc ?_ _)); exact BK336.out), (by repeat (first | (with_reducible first | exact HB.out | apply below_alloc | apply pw_below_drewN | apply below_drew1 | refine below_set ?_ GE334.out | refine below_set ?_ GE335.out | refine below_set ?_ GE336.out) | exact HB.out))⟩)
                    ·skip
                     refine box_step ?hg (N := 17) ?hd (cs := #[.int .i64 0, .int .i64 0, .int .i64 0]) (t := 50) ?hr ?_; (case hd => rfl); (case hg => rfl); (case hr => first | (go_simp; done) | (go_simp; rfl))
                     intro gb350 hg w79 hbox hb
                     have n0_ := Aside0.mk (blk_below (g := gb334) (o := .cells #[.int .i64 a2_0, .int .i64 a2_1, .int .i64 a2_2] 65 (0, 0)) (by (with_reducible repeat (first | refine blk_drewN ?_ _ | refine blk_drew ?_ | refine blk_alloc ?_ _)); exact BK334.out) hb)
                     have n1_ := Aside0.mk (blk_below (g := gb335) (o := .cells #[.int .i64 x336000_2, .int .i64 x336001_2, .int .i64 x336002_2] 50 (0, 0)) (by (with_reducible repeat (first | refine blk_drewN ?_ _ | refine blk_drew ?_ | refine blk_alloc ?_ _)); exact BK335.out) hb)
                     have n2_ := Aside0.mk (blk_below (g := gb336) (o := .cells #[.int .i64 a2_1, .int .i64 a2_2] 88 (0, 0)) (by (with_reducible repeat (first | refine blk_drewN ?_ _ | refine blk_drew ?_ | refine blk_alloc ?_ _)); exact BK336.out) hb)
                     have n3_ := Aside0.mk (below_step (by repeat (first | (with_reducible first | exact HB.out | apply below_alloc | apply pw_below_drewN | apply below_drew1 | refine below_set ?_ GE334.out | refine below_set ?_ GE335.out | refine below_set ?_ GE336.out) | exact HB.out)) hb)
                     have n4_ := Aside0.mk (hbox)
                     have n5_ := Aside0.mk ((by rw [hg]; exact (below_size (by repeat (first | (with_reducible first | exact HB.out | apply below_alloc | apply pw_below_drewN | apply below_drew1 | refine below_set ?_ GE334.out | refine below_set ?_ GE335.out | refine below_set ?_ GE336.out) | exact HB.out))) : w.heap.size ≤ gb350))
                     have n6_ := Aside0.mk ((by rw [hg]; exact (below_size (by repeat (first | (with_reducible first | exact HB.out | apply below_alloc | apply pw_below_drewN | apply below_drew1 | refine below_set ?_ GE334.out | refine below_set ?_ GE335.out | refine below_set ?_ GE336.out) | exact HB.out))) : w.heap.size ≤ gb350))
                     have n7_ := Aside0.mk ((by rw [hg]; exact Nat.ne_of_lt (blk_lt (g := gb334) (o := .cells #[.int .i64 a2_0, .int .i64 a2_1, .int .i64 a2_2] 65 (0, 0)) (by (with_reducible repeat (first | refine blk_drewN ?_ _ | refine blk_drew ?_ | refine blk_alloc ?_ _)); exact BK334.out)) : gb334 ≠ gb350))
                     have n8_ := Aside0.mk ((by rw [hg]; exact Nat.ne_of_gt (blk_lt (g := gb334) (o := .cells #[.int .i64 a2_0, .int .i64 a2_1, .int .i64 a2_2] 65 (0, 0)) (by (with_reducible repeat (first | refine blk_drewN ?_ _ | refine blk_drew ?_ | refine blk_alloc ?_ _)); exact BK334.out)) : gb350 ≠ gb334))
                     have n9_ := Aside0.mk ((by rw [hg]; exact Nat.ne_of_lt (blk_lt (g := gb335) (o := .cells #[.int .i64 x336000_2, .int .i64 x336001_2, .int .i64 x336002_2] 50 (0, 0)) (by (with_reducible repeat (first | refine blk_drewN ?_ _ | refine blk_drew ?_ | refine blk_alloc ?_ _)); exact BK335.out)) : gb335 ≠ gb350))
                     have n10_ := Aside0.mk ((by rw [hg]; exact Nat.ne_of_gt (blk_lt (g := gb335) (o := .cells #[.int .i64 x336000_2, .int .i64 x336001_2, .int .i64 x336002_2] 50 (0, 0)) (by (with_reducible repeat (first | refine blk_drewN ?_ _ | refine blk_drew ?_ | refine blk_alloc ?_ _)); exact BK335.out)) : gb350 ≠ gb335))
                     have n11_ := Aside0.mk ((by rw [hg]; exact Nat.ne_of_lt (blk_lt (g := gb336) (o := .cells #[.int .i64 a2_1, .int .i64 a2_2] 88 (0, 0)) (by (with_reducible repeat (first | refine blk_drewN ?_ _ | refine blk_drew ?_ | refine blk_alloc ?_ _)); exact BK336.out)) : gb336 ≠ gb350))
                     have n12_ := Aside0.mk ((by rw [hg]; exact Nat.ne_of_gt (blk_lt (g := gb336) (o := .cells #[.int .i64 a2_1, .int .i64 a2_2] 88 (0, 0)) (by (with_reducible repeat (first | refine blk_drewN ?_ _ | refine blk_drew ?_ | refine blk_alloc ?_ _)); exact BK336.out)) : gb350 ≠ gb336))
                     clear BK334
                     clear BK335
                     clear BK336
                     clear HB
                     have BK334 := n0_
                     have BK335 := n1_
                     have BK336 := n2_
                     have HB := n3_
                     have BK350 := n4_
                     have GW350 := n5_
                     have GE350 := n6_
                     have NB334_350 := n7_
                     have NB350_334 := n8_
                     have NB335_350 := n9_
                     have NB350_335 := n10_
                     have NB336_350 := n11_
                     have NB350_336 := n12_
                     clear n0_ n1_ n2_ n3_ n4_ n5_ n6_ n7_ n8_ n9_ n10_ n11_ n12_
                     clear hb hbox hg
                     refine hK.out _ _ ⟨(blk_cell BK336.out 0).trans rfl, (blk_cell BK336.out 1).trans rfl⟩ (fun hHeld => ?_)
                     clear hK K
                     refine norm_ (a' := ?_) ?_ ?_
                     rotate_left
                     ·show Act.put _ (some 17) _ = _
                      simp only [Act.put, List.setIfInBounds_toArray, List.set_cons_zero, List.set_cons_succ, i64_w, i32_w]
                      rfl
                     exact norm_ (by first | (simp only [putAll, Act.put, List.setIfInBounds_toArray, List.set_cons_zero, List.set_cons_succ]; done) | (simp only [putAll, Act.put, List.setIfInBounds_toArray, List.set_cons_zero, List.set_cons_succ]; rfl)) (hJ25 (gb350) _ ⟨hHeld, (by (with_reducible repeat (first | refine blk_drewN ?_ _ | refine blk_drew ?_ | refine blk_alloc ?_ _)); exact BK334.out), (by (with_reducible repeat (first | refine blk_drewN ?_ _ | refine blk_drew ?_ | refine blk_alloc ?_ _)); exact BK335.out), (by (with_reducible repeat (first | refine blk_drewN ?_ _ | refine blk_drew ?_ | refine blk_alloc ?_ _)); exact BK336.out), (by (with_reducible repeat (first | refine blk_drewN ?_ _ | refine blk_drew ?_ | refine blk_alloc ?_ _)); exact BK350.out), GW350.out, GE350.out, NB334_350.out, NB350_334.out, NB335_350.out, NB350_335.out, NB336_350.out, NB350_336.out, (by repeat (first | (with_reducible first | exact HB.out | apply below_alloc | apply pw_below_drewN | apply below_drew1 | refine below_set ?_ GE334.out | refine below_set ?_ GE335.out | refine below_set ?_ GE336.out | refine below_set ?_ GE350.out) | exact HB.out))⟩)
                   ·skip
                    rintro gb350 w80 ⟨hS_, h0_, h1_, h2_, h3_, h4_, h5_, h6_, h7_, h8_, h9_, h10_, h11_, h12_⟩
                    have n0_ : Aside0 (w80.heap[gb334]? = some (.cells #[.int .i64 a2_0, .int .i64 a2_1, .int .i64 a2_2] 65 (0, 0))) := ⟨h0_⟩
                    have n1_ : Aside0 (w80.heap[gb335]? = some (.cells #[.int .i64 x336000_2, .int .i64 x336001_2, .int .i64 x336002_2] 50 (0, 0))) := ⟨h1_⟩
                    have n2_ : Aside0 (w80.heap[gb336]? = some (.cells #[.int .i64 a2_1, .int .i64 a2_2] 88 (0, 0))) := ⟨h2_⟩
                    have n3_ : Aside0 (w80.heap[gb350]? = some (.cells #[.int .i64 0, .int .i64 0, .int .i64 0] 50 (0, 0))) := ⟨h3_⟩
                    have n4_ : Aside0 (w.heap.size ≤ gb350) := ⟨h4_⟩
                    have n5_ : Aside0 (w.heap.size ≤ gb350) := ⟨h5_⟩
                    have n6_ : Aside0 (gb334 ≠ gb350) := ⟨h6_⟩
                    have n7_ : Aside0 (gb350 ≠ gb334) := ⟨h7_⟩
                    have n8_ : Aside0 (gb335 ≠ gb350) := ⟨h8_⟩
                    have n9_ : Aside0 (gb350 ≠ gb335) := ⟨h9_⟩
                    have n10_ : Aside0 (gb336 ≠ gb350) := ⟨h10_⟩
                    have n11_ : Aside0 (gb350 ≠ gb336) := ⟨h11_⟩
                    have n12_ : Aside0 (Below w.heap.size w w80) := ⟨h12_⟩
                    clear BK334
                    clear BK335
                    clear BK336
                    clear HB
                    clear h0_ h1_ h2_ h3_ h4_ h5_ h6_ h7_ h8_ h9_ h10_ h11_ h12_
                    have BK334 := n0_
                    have BK335 := n1_
                    have BK336 := n2_
                    have BK350 := n3_
                    have GW350 := n4_
                    have GE350 := n5_
                    have NB334_350 := n6_
                    have NB350_334 := n7_
                    have NB335_350 := n8_
                    have NB350_335 := n9_
                    have NB336_350 := n10_
                    have NB350_336 := n11_
                    have HB := n12_
                    clear n0_ n1_ n2_ n3_ n4_ n5_ n6_ n7_ n8_ n9_ n10_ n11_ n12_
                    have hHeld : w80.cell? ⟨gb336, 0, none⟩ = some (.int .i64 a2_1) ∧ w80.cell? ⟨gb336, 1, none⟩ = some (.int .i64 a2_2) := hS_
                    refine norm_ (a' := ?_) ?_ ?_
                    rotate_left
                    ·simp only [putAll, Act.put, List.setIfInBounds_toArray, List.set_cons_zero, List.set_cons_succ]
                     rfl
                    refine one_ (i := 1) (N := some 76) #[true, true, true, true, true, false, true, false, true, false, true, true, false, false, true, false, true, true, true, true, true, false, false, false, false, true, false] rfl rfl (one_of HT_.out (by kernel_rfl)) (by decide) (fun K hK => ?_)
                    refine goes_ Try.func45 (by kernel_rfl) rfl #[.agg #[.int .i64 a2_1, .int .i64 a2_2]] (by rfl) rfl rfl (by (try simp only [List.map_toArray, List.map_cons, List.map_nil]); first | done | rfl | (simp only [List.length_drop, List.length_take]; rfl)) ?_
                    with_reducible refine (score_weights_product.calls a2_1 a2_2 t346 _ A72.out).mono ?_
                    rintro e w81 ⟨rfl, hb⟩
                    refine ⟨_, rfl, ?_⟩
                    have n0_ := Aside0.mk (blk_below (g := gb334) (o := .cells #[.int .i64 a2_0, .int .i64 a2_1, .int .i64 a2_2] 65 (0, 0)) (by (with_reducible repeat (first | refine blk_drewN ?_ _ | refine blk_drew ?_ | refine blk_alloc ?_ _)); exact BK334.out) hb)
                    have n1_ := Aside0.mk (blk_below (g := gb335) (o := .cells #[.int .i64 x336000_2, .int .i64 x336001_2, .int .i64 x336002_2] 50 (0, 0)) (by (with_reducible repeat (first | refine blk_drewN ?_ _ | refine blk_drew ?_ | refine blk_alloc ?_ _)); exact BK335.out) hb)
                    have n2_ := Aside0.mk (blk_below (g := gb336) (o := .cells #[.int .i64 a2_1, .int .i64 a2_2] 88 (0, 0)) (by (with_reducible repeat (first | refine blk_drewN ?_ _ | refine blk_drew ?_ | refine blk_alloc ?_ _)); exact BK336.out) hb)
                    have n3_ := Aside0.mk (blk_below (g := gb350) (o := .cells #[.int .i64 0, .int .i64 0, .int .i64 0] 50 (0, 0)) (by (with_reducible repeat (first | refine blk_drewN ?_ _ | refine blk_drew ?_ | refine blk_alloc ?_ _)); exact BK350.out) hb)
                    have n4_ := Aside0.mk (below_step (by repeat (first | (with_reducible first | exact HB.out | apply below_alloc | apply pw_below_drewN | apply below_drew1 | refine below_set ?_ GE334.out | refine below_set ?_ GE335.out | refine below_set ?_ GE336.out | refine below_set ?_ GE350.out) | exact HB.out)) hb)
                    clear BK334
                    clear BK335
                    clear BK336
                    clear BK350
                    clear HB
                    have BK334 := n0_
                    have BK335 := n1_
                    have BK336 := n2_
                    have BK350 := n3_
                    have HB := n4_
                    clear n0_ n1_ n2_ n3_ n4_
                    (try clear hb)
                    (try clear hb2)
                    (try clear hk)
                    (try clear hi)
                    refine hK.out _ _ ⟨(blk_cell BK336.out 0).trans rfl, (blk_cell BK336.out 1).trans rfl⟩ (fun hHeld => ?_)
                    clear hK K
                    refine norm_ (a' := ?_) ?_ ?_
                    rotate_left
                    ·show Act.put _ (some 76) _ = _
                     simp only [Act.put, List.setIfInBounds_toArray, List.set_cons_zero, List.set_cons_succ, i64_w, i32_w]
                     rfl
                    refine pure_ (i := 5) (N := some 80) (v := ?_) (a' := ?_) #[true, true, true, true, true, true, true, false, true, false, true, true, false, false, true, false, true, true, true, true, true, false, false, false, false, true, false] rfl rfl (any_of HT_.out (by kernel_rfl)) (fun _ _ _ h => h) (Or.inl ⟨by rfl, ?_⟩) ?_ ?_
                    rotate_left
                    ·intro w'
                     go_simp
                     with_reducible rfl
                    rotate_left
                    ·simp only [Act.put, List.setIfInBounds_toArray, List.set_cons_zero, List.set_cons_succ, i64_w, i32_w]
                     rfl
                    exact norm_ (by first | (simp only [putAll, Act.put, List.setIfInBounds_toArray, List.set_cons_zero, List.set_cons_succ]; done) | (simp only [putAll, Act.put, List.setIfInBounds_toArray, List.set_cons_zero, List.set_cons_succ]; rfl)) (hJ1_25 (gb350) _ ⟨hHeld, (by (with_reducible repeat (first | refine blk_drewN ?_ _ | refine blk_drew ?_ | refine blk_alloc ?_ _)); exact BK334.out), (by (with_reducible repeat (first | refine blk_drewN ?_ _ | refine blk_drew ?_ | refine blk_alloc ?_ _)); exact BK335.out), (by (with_reducible repeat (first | refine blk_drewN ?_ _ | refine blk_drew ?_ | refine blk_alloc ?_ _)); exact BK336.out), (by (with_reducible repeat (first | refine blk_drewN ?_ _ | refine blk_drew ?_ | refine blk_alloc ?_ _)); exact BK350.out), GW350.out, GE350.out, NB334_350.out, NB350_334.out, NB335_350.out, NB350_335.out, NB336_350.out, NB350_336.out, (by repeat (first | (with_reducible first | exact HB.out | apply below_alloc | apply pw_below_drewN | apply below_drew1 | refine below_set ?_ GE334.out | refine below_set ?_ GE335.out | refine below_set ?_ GE336.out | refine below_set ?_ GE350.out) | exact HB.out))⟩)
                  ·skip
                   rintro _ w80 ⟨hS_, h0_, h1_, h2_, h3_⟩
                   have n0_ : Aside0 (w80.heap[gb334]? = some (.cells #[.int .i64 a2_0, .int .i64 a2_1, .int .i64 a2_2] 65 (0, 0))) := ⟨h0_⟩
                   have n1_ : Aside0 (w80.heap[gb335]? = some (.cells #[.int .i64 x336000_2, .int .i64 x336001_2, .int .i64 x336002_2] 50 (0, 0))) := ⟨h1_⟩
                   have n2_ : Aside0 (w80.heap[gb336]? = some (.cells #[.int .i64 a2_1, .int .i64 a2_2] 88 (0, 0))) := ⟨h2_⟩
                   have n3_ : Aside0 (Below w.heap.size w w80) := ⟨h3_⟩
                   clear BK334
                   clear BK335
                   clear BK336
                   clear HB
                   clear h0_ h1_ h2_ h3_
                   have BK334 := n0_
                   have BK335 := n1_
                   have BK336 := n2_
                   have HB := n3_
                   clear n0_ n1_ n2_ n3_
                   have hHeld : w80.cell? ⟨gb336, 0, none⟩ = some (.int .i64 a2_1) ∧ w80.cell? ⟨gb336, 1, none⟩ = some (.int .i64 a2_2) := hS_
                   refine norm_ (a' := ?_) ?_ ?_
                   rotate_left
                   ·simp only [putAll, Act.put, List.setIfInBounds_toArray, List.set_cons_zero, List.set_cons_succ]
                    rfl
                   refine two_ (i := 7) (j := 25) (Ni := some 82) (Nj := some 17) #[true, true, true, true, true, true, true, true, true, false, true, true, false, false, true, false, true, true, true, true, true, false, false, false, false, false, false] #[true, true, true, true, true, true, true, false, true, false, true, true, false, false, true, false, true, true, true, true, true, false, false, false, false, true, false] rfl rfl rfl rfl (two_of HT_.out (by kernel_rfl)) (by decide) (by decide) (fun K hK => ?_) (fun K hK => ?_)
                   ·skip
                    refine goes_ Try.func45 (by kernel_rfl) rfl #[.agg #[.int .i64 a2_1, .int .i64 a2_2]] (by rfl) rfl rfl (by (try simp only [List.map_toArray, List.map_cons, List.map_nil]); first | done | rfl | (simp only [List.length_drop, List.length_take]; rfl)) ?_
                    with_reducible refine (score_weights_product.calls a2_1 a2_2 t347 _ A73.out).mono ?_
                    rintro e w81 ⟨rfl, hb⟩
                    refine ⟨_, rfl, ?_⟩
                    have n0_ := Aside0.mk (blk_below (g := gb334) (o := .cells #[.int .i64 a2_0, .int .i64 a2_1, .int .i64 a2_2] 65 (0, 0)) (by (with_reducible repeat (first | refine blk_drewN ?_ _ | refine blk_drew ?_ | refine blk_alloc ?_ _)); exact BK334.out) hb)
                    have n1_ := Aside0.mk (blk_below (g := gb335) (o := .cells #[.int .i64 x336000_2, .int .i64 x336001_2, .int .i64 x336002_2] 50 (0, 0)) (by (with_reducible repeat (first | refine blk_drewN ?_ _ | refine blk_drew ?_ | refine blk_alloc ?_ _)); exact BK335.out) hb)
                    have n2_ := Aside0.mk (blk_below (g := gb336) (o := .cells #[.int .i64 a2_1, .int .i64 a2_2] 88 (0, 0)) (by (with_reducible repeat (first | refine blk_drewN ?_ _ | refine blk_drew ?_ | refine blk_alloc ?_ _)); exact BK336.out) hb)
                    have n3_ := Aside0.mk (below_step (by repeat (first | (with_reducible first | exact HB.out | apply below_alloc | apply pw_below_drewN | apply below_drew1 | refine below_set ?_ GE334.out | refine below_set ?_ GE335.out | refine below_set ?_ GE336.out) | exact HB.out)) hb)
                    clear BK334
                    clear BK335
                    clear BK336
                    clear HB
                    have BK334 := n0_
                    have BK335 := n1_
                    have BK336 := n2_
                    have HB := n3_
                    clear n0_ n1_ n2_ n3_
                    (try clear hb)
                    (try clear hb2)
                    (try clear hk)
                    (try clear hi)
                    refine hK.out _ _ ⟨(blk_cell BK336.out 0).trans rfl, (blk_cell BK336.out 1).trans rfl⟩ (fun hHeld => ?_)
                    clear hK K
                    refine norm_ (a' := ?_) ?_ ?_
                    rotate_left
                    ·show Act.put _ (some 82) _ = _
                     simp only [Act.put, List.setIfInBounds_toArray, List.set_cons_zero, List.set_cons_succ, i64_w, i32_w]
                     rfl
                    refine pure_ (i := 9) (N := some 84) (v := ?_) (a' := ?_) #[true, true, true, true, true, true, true, true, true, true, true, true, false, false, true, false, true, true, true, true, true, false, false, false, false, false, false] rfl rfl (any_of HT_.out (by kernel_rfl)) (fun _ _ _ h => h) (Or.inl ⟨by rfl, ?_⟩) ?_ ?_
                    rotate_left
                    ·intro w'
                     go_simp
                     with_reducible rfl
                    rotate_left
                    ·simp only [Act.put, List.setIfInBounds_toArray, List.set_cons_zero, List.set_cons_succ, i64_w, i32_w]
                     rfl
                    exact norm_ (by first | (simp only [putAll, Act.put, List.setIfInBounds_toArray, List.set_cons_zero, List.set_cons_succ]; done) | (simp only [putAll, Act.put, List.setIfInBounds_toArray, List.set_cons_zero, List.set_cons_succ]; rfl)) (hJ1_7 () _ ⟨hHeld, (by (with_reducible repeat (first | refine blk_drewN ?_ _ | refine blk_drew ?_ | refine blk_alloc ?_ _)); exact BK334.out), (by (with_reducible repeat (first | refine blk_drewN ?_ _ | refine blk_drew ?_ | refine blk_alloc ?_ _)); exact BK335.out), (by (with_reducible repeat (first | refine blk_drewN ?_ _ | refine blk_drew ?_ | refine blk_alloc ?_ _)); exact BK336.out), (by repeat (first | (with_reducible first | exact HB.out | apply below_alloc | apply pw_below_drewN | apply below_drew1 | refine below_set ?_ GE334.out | refine below_set ?_ GE335.out | refine below_set ?_ GE336.out) | exact HB.out))⟩)
                   ·skip
                    refine box_step ?hg (N := 17) ?hd (cs := #[.int .i64 0, .int .i64 0, .int .i64 0]) (t := 50) ?hr ?_; (case hd => rfl); (case hg => rfl); (case hr => first | (go_simp; done) | (go_simp; rfl))
                    intro gb350 hg w81 hbox hb
                    have n0_ := Aside0.mk (blk_below (g := gb334) (o := .cells #[.int .i64 a2_0, .int .i64 a2_1, .int .i64 a2_2] 65 (0, 0)) (by (with_reducible repeat (first | refine blk_drewN ?_ _ | refine blk_drew ?_ | refine blk_alloc ?_ _)); exact BK334.out) hb)
                    have n1_ := Aside0.mk (blk_below (g := gb335) (o := .cells #[.int .i64 x336000_2, .int .i64 x336001_2, .int .i64 x336002_2] 50 (0, 0)) (by (with_reducible repeat (first | refine blk_drewN ?_ _ | refine blk_drew ?_ | refine blk_alloc ?_ _)); exact BK335.out) hb)
                    have n2_ := Aside0.mk (blk_below (g := gb336) (o := .cells #[.int .i64 a2_1, .int .i64 a2_2] 88 (0, 0)) (by (with_reducible repeat (first | refine blk_drewN ?_ _ | refine blk_drew ?_ | refine blk_alloc ?_ _)); exact BK336.out) hb)
                    have n3_ := Aside0.mk (below_step (by repeat (first | (with_reducible first | exact HB.out | apply below_alloc | apply pw_below_drewN | apply below_drew1 | refine below_set ?_ GE334.out | refine below_set ?_ GE335.out | refine below_set ?_ GE336.out) | exact HB.out)) hb)
                    have n4_ := Aside0.mk (hbox)
                    have n5_ := Aside0.mk ((by rw [hg]; exact (below_size (by repeat (first | (with_reducible first | exact HB.out | apply below_alloc | apply pw_below_drewN | apply below_drew1 | refine below_set ?_ GE334.out | refine below_set ?_ GE335.out | refine below_set ?_ GE336.out) | exact HB.out))) : w.heap.size ≤ gb350))
                    have n6_ := Aside0.mk ((by rw [hg]; exact (below_size (by repeat (first | (with_reducible first | exact HB.out | apply below_alloc | apply pw_below_drewN | apply below_drew1 | refine below_set ?_ GE334.out | refine below_set ?_ GE335.out | refine below_set ?_ GE336.out) | exact HB.out))) : w.heap.size ≤ gb350))
                    have n7_ := Aside0.mk ((by rw [hg]; exact Nat.ne_of_lt (blk_lt (g := gb334) (o := .cells #[.int .i64 a2_0, .int .i64 a2_1, .int .i64 a2_2] 65 (0, 0)) (by (with_reducible repeat (first | refine blk_drewN ?_ _ | refine blk_drew ?_ | refine blk_alloc ?_ _)); exact BK334.out)) : gb334 ≠ gb350))
                    have n8_ := Aside0.mk ((by rw [hg]; exact Nat.ne_of_gt (blk_lt (g := gb334) (o := .cells #[.int .i64 a2_0, .int .i64 a2_1, .int .i64 a2_2] 65 (0, 0)) (by (with_reducible repeat (first | refine blk_drewN ?_ _ | refine blk_drew ?_ | refine blk_alloc ?_ _)); exact BK334.out)) : gb350 ≠ gb334))
                    have n9_ := Aside0.mk ((by rw [hg]; exact Nat.ne_of_lt (blk_lt (g := gb335) (o := .cells #[.int .i64 x336000_2, .int .i64 x336001_2, .int .i64 x336002_2] 50 (0, 0)) (by (with_reducible repeat (first | refine blk_drewN ?_ _ | refine blk_drew ?_ | refine blk_alloc ?_ _)); exact BK335.out)) : gb335 ≠ gb350))
                    have n10_ := Aside0.mk ((by rw [hg]; exact Nat.ne_of_gt (blk_lt (g := gb335) (o := .cells #[.int .i64 x336000_2, .int .i64 x336001_2, .int .i64 x336002_2] 50 (0, 0)) (by (with_reducible repeat (first | refine blk_drewN ?_ _ | refine blk_drew ?_ | refine blk_alloc ?_ _)); exact BK335.out)) : gb350 ≠ gb335))
                    have n11_ := Aside0.mk ((by rw [hg]; exact Nat.ne_of_lt (blk_lt (g := gb336) (o := .cells #[.int .i64 a2_1, .int .i64 a2_2] 88 (0, 0)) (by (with_reducible repeat (first | refine blk_drewN ?_ _ | refine blk_drew ?_ | refine blk_alloc ?_ _)); exact BK336.out)) : gb336 ≠ gb350))
                    have n12_ := Aside0.mk ((by rw [hg]; exact Nat.ne_of_gt (blk_lt (g := gb336) (o := .cells #[.int .i64 a2_1, .int .i64 a2_2] 88 (0, 0)) (by (with_reducible repeat (first | refine blk_drewN ?_ _ | refine blk_drew ?_ | refine blk_alloc ?_ _)); exact BK336.out)) : gb350 ≠ gb336))
                    clear BK334
                    clear BK335
                    clear BK336
                    clear HB
                    have BK334 := n0_
                    have BK335 := n1_
                    have BK336 := n2_
                    have HB := n3_
                    have BK350 := n4_
                    have GW350 := n5_
                    have GE350 := n6_
                    have NB334_350 := n7_
                    have NB350_334 := n8_
                    have NB335_350 := n9_
                    have NB350_335 := n10_
                    have NB336_350 := n11_
                    have NB350_336 := n12_
                    clear n0_ n1_ n2_ n3_ n4_ n5_ n6_ n7_ n8_ n9_ n10_ n11_ n12_
                    clear hb hbox hg
                    refine hK.out _ _ ⟨(blk_cell BK336.out 0).trans rfl, (blk_cell BK336.out 1).trans rfl⟩ (fun hHeld => ?_)
                    clear hK K
                    refine norm_ (a' := ?_) ?_ ?_
                    rotate_left
                    ·show Act.put _ (some 17) _ = _
                     simp only [Act.put, List.setIfInBounds_toArray, List.set_cons_zero, List.set_cons_succ, i64_w, i32_w]
                     rfl
                    exact norm_ (by first | (simp only [putAll, Act.put, List.setIfInBounds_toArray, List.set_cons_zero, List.set_cons_succ]; done) | (simp only [putAll, Act.put, List.setIfInBounds_toArray, List.set_cons_zero, List.set_cons_succ]; rfl)) (hJ1_25 (gb350) _ ⟨hHeld, (by (with_reducible repeat (first | refine blk_drewN ?_ _ | refine blk_drew ?_ | refine blk_alloc ?_ _)); exact BK334.out), (by (with_reducible repeat (first | refine blk_drewN ?_ _ | refine blk_drew ?_ | refine blk_alloc ?_ _)); exact BK335.out), (by (with_reducible repeat (first | refine blk_drewN ?_ _ | refine blk_drew ?_ | refine blk_alloc ?_ _)); exact BK336.out), (by (with_reducible repeat (first | refine blk_drewN ?_ _ | refine blk_drew ?_ | refine blk_alloc ?_ _)); exact BK350.out), GW350.out, GE350.out, NB334_350.out, NB350_334.out, NB335_350.out, NB350_335.out, NB336_350.out, NB350_336.out, (by repeat (first | (with_reducible first | exact HB.out | apply below_alloc | apply pw_below_drewN | apply below_drew1 | refine below_set ?_ GE334.out | refine below_set ?_ GE335.out | refine below_set ?_ GE336.out | refine below_set ?_ GE350.out) | exact HB.out))⟩)
                 ·skip
                  rintro gb350 w81 ⟨hS_, h0_, h1_, h2_, h3_, h4_, h5_, h6_, h7_, h8_, h9_, h10_, h11_, h12_⟩
                  have n0_ : Aside0 (w81.heap[gb334]? = some (.cells #[.int .i64 a2_0, .int .i64 a2_1, .int .i64 a2_2] 65 (0, 0))) := ⟨h0_⟩
                  have n1_ : Aside0 (w81.heap[gb335]? = some (.cells #[.int .i64 x336000_2, .int .i64 x336001_2, .int .i64 x336002_2] 50 (0, 0))) := ⟨h1_⟩
                  have n2_ : Aside0 (w81.heap[gb336]? = some (.cells #[.int .i64 a2_1, .int .i64 a2_2] 88 (0, 0))) := ⟨h2_⟩
                  have n3_ : Aside0 (w81.heap[gb350]? = some (.cells #[.int .i64 0, .int .i64 0, .int .i64 0] 50 (0, 0))) := ⟨h3_⟩
                  have n4_ : Aside0 (w.heap.size ≤ gb350) := ⟨h4_⟩
                  have n5_ : Aside0 (w.heap.size ≤ gb350) := ⟨h5_⟩
                  have n6_ : Aside0 (gb334 ≠ gb350) := ⟨h6_⟩
                  have n7_ : Aside0 (gb350 ≠ gb334) := ⟨h7_⟩
                  have n8_ : Aside0 (gb335 ≠ gb350) := ⟨h8_⟩
                  have n9_ : Aside0 (gb350 ≠ gb335) := ⟨h9_⟩
                  have n10_ : Aside0 (gb336 ≠ gb350) := ⟨h10_⟩
                  have n11_ : Aside0 (gb350 ≠ gb336) := ⟨h11_⟩
                  have n12_ : Aside0 (Below w.heap.size w w81) := ⟨h12_⟩
                  clear BK334
                  clear BK335
                  clear BK336
                  clear HB
                  clear h0_ h1_ h2_ h3_ h4_ h5_ h6_ h7_ h8_ h9_ h10_ h11_ h12_
                  have BK334 := n0_
                  have BK335 := n1_
                  have BK336 := n2_
                  have BK350 := n3_
                  have GW350 := n4_
                  have GE350 := n5_
                  have NB334_350 := n6_
                  have NB350_334 := n7_
                  have NB335_350 := n8_
                  have NB350_335 := n9_
                  have NB336_350 := n10_
                  have NB350_336 := n11_
                  have HB := n12_
                  clear n0_ n1_ n2_ n3_ n4_ n5_ n6_ n7_ n8_ n9_ n10_ n11_ n12_
                  have hHeld : w81.cell? ⟨gb336, 0, none⟩ = some (.int .i64 a2_1) ∧ w81.cell? ⟨gb336, 1, none⟩ = some (.int .i64 a2_2) := hS_
                  refine norm_ (a' := ?_) ?_ ?_
                  rotate_left
                  ·simp only [putAll, Act.put, List.setIfInBounds_toArray, List.set_cons_zero, List.set_cons_succ]
                   rfl
                  refine one_ (i := 7) (N := some 82) #[true, true, true, true, true, true, true, true, true, false, true, true, false, false, true, false, true, true, true, true, true, false, false, false, false, true, false] rfl rfl (one_of HT_.out (by kernel_rfl)) (by decide) (fun K hK => ?_)
                  refine goes_ Try.func45 (by kernel_rfl) rfl #[.agg #[.int .i64 a2_1, .int .i64 a2_2]] (by rfl) rfl rfl (by (try simp only [List.map_toArray, List.map_cons, List.map_nil]); first | done | rfl | (simp only [List.length_drop, List.length_take]; rfl)) ?_
                  with_reducible refine (score_weights_product.calls a2_1 a2_2 t347 _ A73.out).mono ?_
                  rintro e w82 ⟨rfl, hb⟩
                  refine ⟨_, rfl, ?_⟩
                  have n0_ := Aside0.mk (blk_below (g := gb334) (o := .cells #[.int .i64 a2_0, .int .i64 a2_1, .int .i64 a2_2] 65 (0, 0)) (by (with_reducible repeat (first | refine blk_drewN ?_ _ | refine blk_drew ?_ | refine blk_alloc ?_ _)); exact BK334.out) hb)
                  have n1_ := Aside0.mk (blk_below (g := gb335) (o := .cells #[.int .i64 x336000_2, .int .i64 x336001_2, .int .i64 x336002_2] 50 (0, 0)) (by (with_reducible repeat (first | refine blk_drewN ?_ _ | refine blk_drew ?_ | refine blk_alloc ?_ _)); exact BK335.out) hb)
                  have n2_ := Aside0.mk (blk_below (g := gb336) (o := .cells #[.int .i64 a2_1, .int .i64 a2_2] 88 (0, 0)) (by (with_reducible repeat (first | refine blk_drewN ?_ _ | refine blk_drew ?_ | refine blk_alloc ?_ _)); exact BK336.out) hb)
                  have n3_ := Aside0.mk (blk_below (g := gb350) (o := .cells #[.int .i64 0, .int .i64 0, .int .i64 0] 50 (0, 0)) (by (with_reducible repeat (first | refine blk_drewN ?_ _ | refine blk_drew ?_ | refine blk_alloc ?_ _)); exact BK350.out) hb)
                  have n4_ := Aside0.mk (below_step (by repeat (first | (with_reducible first | exact HB.out | apply below_alloc | apply pw_below_drewN | apply below_drew1 | refine below_set ?_ GE334.out | refine below_set ?_ GE335.out | refine below_set ?_ GE336.out | refine below_set ?_ GE350.out) | exact HB.out)) hb)
                  clear BK334
                  clear BK335
                  clear BK336
                  clear BK350
                  clear HB
                  have BK334 := n0_
                  have BK335 := n1_
                  have BK336 := n2_
                  have BK350 := n3_
                  have HB := n4_
                  clear n0_ n1_ n2_ n3_ n4_
                  (try clear hb)
                  (try clear hb2)
                  (try clear hk)
                  (try clear hi)
                  refine hK.out _ _ ⟨(blk_cell BK336.out 0).trans rfl, (blk_cell BK336.out 1).trans rfl⟩ (fun hHeld => ?_)
                  clear hK K
                  refine norm_ (a' := ?_) ?_ ?_
                  rotate_left
                  ·show Act.put _ (some 82) _ = _
                   simp only [Act.put, List.setIfInBounds_toArray, List.set_cons_zero, List.set_cons_succ, i64_w, i32_w]
                   rfl
                  refine pure_ (i := 9) (N := some 84) (v := ?_) (a' := ?_) #[true, true, true, true, true, true, true, true, true, true, true, true, false, false, true, false, true, true, true, true, true, false, false, false, false, true, false] rfl rfl (any_of HT_.out (by kernel_rfl)) (fun _ _ _ h => h) (Or.inl ⟨by rfl, ?_⟩) ?_ ?_
                  rotate_left
                  ·intro w'
                   go_simp
                   with_reducible rfl
                  rotate_left
                  ·simp only [Act.put, List.setIfInBounds_toArray, List.set_cons_zero, List.set_cons_succ, i64_w, i32_w]
                   rfl
                  exact norm_ (by first | (simp only [putAll, Act.put, List.setIfInBounds_toArray, List.set_cons_zero, List.set_cons_succ]; done) | (simp only [putAll, Act.put, List.setIfInBounds_toArray, List.set_cons_zero, List.set_cons_succ]; rfl)) (hJ1_7_25 (gb350) _ ⟨hHeld, (by (with_reducible repeat (first | refine blk_drewN ?_ _ | refine blk_drew ?_ | refine blk_alloc ?_ _)); exact BK334.out), (by (with_reducible repeat (first | refine blk_drewN ?_ _ | refine blk_drew ?_ | refine blk_alloc ?_ _)); exact BK335.out), (by (with_reducible repeat (first | refine blk_drewN ?_ _ | refine blk_drew ?_ | refine blk_alloc ?_ _)); exact BK336.out), (by (with_reducible repeat (first | refine blk_drewN ?_ _ | refine blk_drew ?_ | refine blk_alloc ?_ _)); exact BK350.out), GW350.out, GE350.out, NB334_350.out, NB350_334.out, NB335_350.out, NB350_335.out, NB336_350.out, NB350_336.out, (by repeat (first | (with_reducible first | exact HB.out | apply below_alloc | apply pw_below_drewN | apply below_drew1 | refine below_set ?_ GE334.out | refine below_set ?_ GE335.out | refine below_set ?_ GE336.out | refine below_set ?_ GE350.out) | exact HB.out))⟩)
                ·skip
                 rintro _ w81 ⟨hS_, h0_, h1_, h2_, h3_⟩
                 have n0_ : Aside0 (w81.heap[gb334]? = some (.cells #[.int .i64 a2_0, .int .i64 a2_1, .int .i64 a2_2] 65 (0, 0))) := ⟨h0_⟩
                 have n1_ : Aside0 (w81.heap[gb335]? = some (.cells #[.int .i64 x336000_2, .int .i64 x336001_2, .int .i64 x336002_2] 50 (0, 0))) := ⟨h1_⟩
                 have n2_ : Aside0 (w81.heap[gb336]? = some (.cells #[.int .i64 a2_1, .int .i64 a2_2] 88 (0, 0))) := ⟨h2_⟩
                 have n3_ : Aside0 (Below w.heap.size w w81) := ⟨h3_⟩
                 clear BK334
                 clear BK335
                 clear BK336
                 clear HB
                 clear h0_ h1_ h2_ h3_
                 have BK334 := n0_
                 have BK335 := n1_
                 have BK336 := n2_
                 have HB := n3_
                 clear n0_ n1_ n2_ n3_
                 have hHeld : w81.cell? ⟨gb336, 0, none⟩ = some (.int .i64 a2_1) ∧ w81.cell? ⟨gb336, 1, none⟩ = some (.int .i64 a2_2) := hS_
                 refine norm_ (a' := ?_) ?_ ?_
                 rotate_left
                 ·simp only [putAll, Act.put, List.setIfInBounds_toArray, List.set_cons_zero, List.set_cons_succ]
                  rfl
                 refine two_ (i := 12) (j := 25) (Ni := some 87) (Nj := some 17) #[true, true, true, true, true, true, true, true, true, true, true, true, true, false, true, false, true, true, true, true, true, false, false, false, false, false, false] #[true, true, true, true, true, true, true, true, true, true, true, true, false, false, true, false, true, true, true, true, true, false, false, false, false, true, false] rfl rfl rfl rfl (two_of HT_.out (by kernel_rfl)) (by decide) (by decide) (fun K hK => ?_) (fun K hK => ?_)
                 ·skip
                  refine goes_ Try.func45 (by kernel_rfl) rfl #[.agg #[.int .i64 a2_1, .int .i64 a2_2]] (by rfl) rfl rfl (by (try simp only [List.map_toArray, List.map_cons, List.map_nil]); first | done | rfl | (simp only [List.length_drop, List.length_take]; rfl)) ?_
                  with_reducible refine (score_weights_product.calls a2_1 a2_2 t348 _ A74.out).mono ?_
                  rintro e w82 ⟨rfl, hb⟩
                  refine ⟨_, rfl, ?_⟩
                  have n0_ := Aside0.mk (blk_below (g := gb334) (o := .cells #[.int .i64 a2_0, .int .i64 a2_1, .int .i64 a2_2] 65 (0, 0)) (by (with_reducible repeat (first | refine blk_drewN ?_ _ | refine blk_drew ?_ | refine blk_alloc ?_ _)); exact BK334.out) hb)
                  have n1_ := Aside0.mk (blk_below (g := gb335) (o := .cells #[.int .i64 x336000_2, .int .i64 x336001_2, .int .i64 x336002_2] 50 (0, 0)) (by (with_reducible repeat (first | refine blk_drewN ?_ _ | refine blk_drew ?_ | refine blk_alloc ?_ _)); exact BK335.out) hb)
                  have n2_ := Aside0.mk (blk_below (g := gb336) (o := .cells #[.int .i64 a2_1, .int .i64 a2_2] 88 (0, 0)) (by (with_reducible repeat (first | refine blk_drewN ?_ _ | refine blk_drew ?_ | refine blk_alloc ?_ _)); exact BK336.out) hb)
                  have n3_ := Aside0.mk (below_step (by repeat (first | (with_reducible first | exact HB.out | apply below_alloc | apply pw_below_drewN | apply below_drew1 | refine below_set ?_ GE334.out | refine below_set ?_ GE335.out | refine below_set ?_ GE336.out) | exact HB.out)) hb)
                  clear BK334
                  clear BK335
                  clear BK336
                  clear HB
                  have BK334 := n0_
                  have BK335 := n1_
                  have BK336 := n2_
                  have HB := n3_
                  clear n0_ n1_ n2_ n3_
                  (try clear hb)
                  (try clear hb2)
                  (try clear hk)
                  (try clear hi)
                  refine hK.out _ _ ⟨(blk_cell BK336.out 0).trans rfl, (blk_cell BK336.out 1).trans rfl⟩ (fun hHeld => ?_)
                  clear hK K
                  refine norm_ (a' := ?_) ?_ ?_
                  rotate_left
                  ·show Act.put _ (some 87) _ = _
                   simp only [Act.put, List.setIfInBounds_toArray, List.set_cons_zero, List.set_cons_succ, i64_w, i32_w]
                   rfl
                  refine pure_ (i := 13) (N := some 88) (v := ?_) (a' := ?_) #[true, true, true, true, true, true, true, true, true, true, true, true, true, true, true, false, true, true, true, true, true, false, false, false, false, false, false] rfl rfl (any_of HT_.out (by kernel_rfl)) (fun _ _ _ h => h) (Or.inl ⟨by rfl, ?_⟩) ?_ ?_
                  rotate_left
                  ·intro w'
                   go_simp
                   with_reducible rfl
                  rotate_left
                  ·simp only [Act.put, List.setIfInBounds_toArray, List.set_cons_zero, List.set_cons_succ, i64_w, i32_w]
                   rfl
                  exact norm_ (by first | (simp only [putAll, Act.put, List.setIfInBounds_toArray, List.set_cons_zero, List.set_cons_succ]; done) | (simp only [putAll, Act.put, List.setIfInBounds_toArray, List.set_cons_zero, List.set_cons_succ]; rfl)) (hJ1_7_12 () _ ⟨hHeld, (by (with_reducible repeat (first | refine blk_drewN ?_ _ | refine blk_drew ?_ | refine blk_alloc ?_ _)); exact BK334.out), (by (with_reducible repeat (first | refine blk_drewN ?_ _ | refine blk_drew ?_ | refine blk_alloc ?_ _)); exact BK335.out), (by (with_reducible repeat (first | refine blk_drewN ?_ _ | refine blk_drew ?_ | refine blk_alloc ?_ _)); exact BK336.out), (by repeat (first | (with_reducible first | exact HB.out | apply below_alloc | apply pw_below_drewN | apply below_drew1 | refine below_set ?_ GE334.out | refine below_set ?_ GE335.out | refine below_set ?_ GE336.out) | exact HB.out))⟩)
                 ·skip
                  refine box_step ?hg (N := 17) ?hd (cs := #[.int .i64 0, .int .i64 0, .int .i64 0]) (t := 50) ?hr ?_; (case hd => rfl); (case hg => rfl); (case hr => first | (go_simp; done) | (go_simp; rfl))
                  intro gb350 hg w82 hbox hb
                  have n0_ := Aside0.mk (blk_below (g := gb334) (o := .cells #[.int .i64 a2_0, .int .i64 a2_1, .int .i64 a2_2] 65 (0, 0)) (by (with_reducible repeat (first | refine blk_drewN ?_ _ | refine blk_drew ?_ | refine blk_alloc ?_ _)); exact BK334.out) hb)
                  have n1_ := Aside0.mk (blk_below (g := gb335) (o := .cells #[.int .i64 x336000_2, .int .i64 x336001_2, .int .i64 x336002_2] 50 (0, 0)) (by (with_reducible repeat (first | refine blk_drewN ?_ _ | refine blk_drew ?_ | refine blk_alloc ?_ _)); exact BK335.out) hb)
                  have n2_ := Aside0.mk (blk_below (g := gb336) (o := .cells #[.int .i64 a2_1, .int .i64 a2_2] 88 (0, 0)) (by (with_reducible repeat (first | refine blk_drewN ?_ _ | refine blk_drew ?_ | refine blk_alloc ?_ _)); exact BK336.out) hb)
                  have n3_ := Aside0.mk (below_step (by repeat (first | (with_reducible first | exact HB.out | apply below_alloc | apply pw_below_drewN | apply below_drew1 | refine below_set ?_ GE334.out | refine below_set ?_ GE335.out | refine below_set ?_ GE336.out) | exact HB.out)) hb)
                  have n4_ := Aside0.mk (hbox)
                  have n5_ := Aside0.mk ((by rw [hg]; exact (below_size (by repeat (first | (with_reducible first | exact HB.out | apply below_alloc | apply pw_below_drewN | apply below_drew1 | refine below_set ?_ GE334.out | refine below_set ?_ GE335.out | refine below_set ?_ GE336.out) | exact HB.out))) : w.heap.size ≤ gb350))
                  have n6_ := Aside0.mk ((by rw [hg]; exact (below_size (by repeat (first | (with_reducible first | exact HB.out | apply below_alloc | apply pw_below_drewN | apply below_drew1 | refine below_set ?_ GE334.out | refine below_set ?_ GE335.out | refine below_set ?_ GE336.out) | exact HB.out))) : w.heap.size ≤ gb350))
                  have n7_ := Aside0.mk ((by rw [hg]; exact Nat.ne_of_lt (blk_lt (g := gb334) (o := .cells #[.int .i64 a2_0, .int .i64 a2_1, .int .i64 a2_2] 65 (0, 0)) (by (with_reducible repeat (first | refine blk_drewN ?_ _ | refine blk_drew ?_ | refine blk_alloc ?_ _)); exact BK334.out)) : gb334 ≠ gb350))
                  have n8_ := Aside0.mk ((by rw [hg]; exact Nat.ne_of_gt (blk_lt (g := gb334) (o := .cells #[.int .i64 a2_0, .int .i64 a2_1, .int .i64 a2_2] 65 (0, 0)) (by (with_reducible repeat (first | refine blk_drewN ?_ _ | refine blk_drew ?_ | refine blk_alloc ?_ _)); exact BK334.out)) : gb350 ≠ gb334))
                  have n9_ := Aside0.mk ((by rw [hg]; exact Nat.ne_of_lt (blk_lt (g := gb335) (o := .cells #[.int .i64 x336000_2, .int .i64 x336001_2, .int .i64 x336002_2] 50 (0, 0)) (by (with_reducible repeat (first | refine blk_drewN ?_ _ | refine blk_drew ?_ | refine blk_alloc ?_ _)); exact BK335.out)) : gb335 ≠ gb350))
                  have n10_ := Aside0.mk ((by rw [hg]; exact Nat.ne_of_gt (blk_lt (g := gb335) (o := .cells #[.int .i64 x336000_2, .int .i64 x336001_2, .int .i64 x336002_2] 50 (0, 0)) (by (with_reducible repeat (first | refine blk_drewN ?_ _ | refine blk_drew ?_ | refine blk_alloc ?_ _)); exact BK335.out)) : gb350 ≠ gb335))
                  have n11_ := Aside0.mk ((by rw [hg]; exact Nat.ne_of_lt (blk_lt (g := gb336) (o := .cells #[.int .i64 a2_1, .int .i64 a2_2] 88 (0, 0)) (by (with_reducible repeat (first | refine blk_drewN ?_ _ | refine blk_drew ?_ | refine blk_alloc ?_ _)); exact BK336.out)) : gb336 ≠ gb350))
                  have n12_ := Aside0.mk ((by rw [hg]; exact Nat.ne_of_gt (blk_lt (g := gb336) (o := .cells #[.int .i64 a2_1, .int .i64 a2_2] 88 (0, 0)) (by (with_reducible repeat (first | refine blk_drewN ?_ _ | refine blk_drew ?_ | refine blk_alloc ?_ _)); exact BK336.out)) : gb350 ≠ gb336))
                  clear BK334
                  clear BK335
                  clear BK336
                  clear HB
                  have BK334 := n0_
                  have BK335 := n1_
                  have BK336 := n2_
                  have HB := n3_
                  have BK350 := n4_
                  have GW350 := n5_
                  have GE350 := n6_
                  have NB334_350 := n7_
                  have NB350_334 := n8_
                  have NB335_350 := n9_
                  have NB350_335 := n10_
                  have NB336_350 := n11_
                  have NB350_336 := n12_
                  clear n0_ n1_ n2_ n3_ n4_ n5_ n6_ n7_ n8_ n9_ n10_ n11_ n12_
                  clear hb hbox hg
                  refine hK.out _ _ ⟨(blk_cell BK336.out 0).trans rfl, (blk_cell BK336.out 1).trans rfl⟩ (fun hHeld => ?_)
                  clear hK K
                  refine norm_ (a' := ?_) ?_ ?_
                  rotate_left
                  ·show Act.put _ (some 17) _ = _
                   simp only [Act.put, List.setIfInBounds_toArray, List.set_cons_zero, List.set_cons_succ, i64_w, i32_w]
                   rfl
                  exact norm_ (by first | (simp only [putAll, Act.put, List.setIfInBounds_toArray, List.set_cons_zero, List.set_cons_succ]; done) | (simp only [putAll, Act.put, List.setIfInBounds_toArray, List.set_cons_zero, List.set_cons_succ]; rfl)) (hJ1_7_25 (gb350) _ ⟨hHeld, (by (with_reducible repeat (first | refine blk_drewN ?_ _ | refine blk_drew ?_ | refine blk_alloc ?_ _)); exact BK334.out), (by (with_reducible repeat (first | refine blk_drewN ?_ _ | refine blk_drew ?_ | refine blk_alloc ?_ _)); exact BK335.out), (by (with_reducible repeat (first | refine blk_drewN ?_ _ | refine blk_drew ?_ | refine blk_alloc ?_ _)); exact BK336.out), (by (with_reducible repeat (first | refine blk_drewN ?_ _ | refine blk_drew ?_ | refine blk_alloc ?_ _)); exact BK350.out), GW350.out, GE350.out, NB334_350.out, NB350_334.out, NB335_350.out, NB350_335.out, NB336_350.out, NB350_336.out, (by repeat (first | (with_reducible first | exact HB.out | apply below_alloc | apply pw_below_drewN | apply below_drew1 | refine below_set ?_ GE334.out | refine below_set ?_ GE335.out | refine below_set ?_ GE336.out | refine below_set ?_ GE350.out) | exact HB.out))⟩)
               ·skip
                rintro gb350 w82 ⟨hS_, h0_, h1_, h2_, h3_, h4_, h5_, h6_, h7_, h8_, h9_, h10_, h11_, h12_⟩
                have n0_ : Aside0 (w82.heap[gb334]? = some (.cells #[.int .i64 a2_0, .int .i64 a2_1, .int .i64 a2_2] 65 (0, 0))) := ⟨h0_⟩
                have n1_ : Aside0 (w82.heap[gb335]? = some (.cells #[.int .i64 x336000_2, .int .i64 x336001_2, .int .i64 x336002_2] 50 (0, 0))) := ⟨h1_⟩
                have n2_ : Aside0 (w82.heap[gb336]? = some (.cells #[.int .i64 a2_1, .int .i64 a2_2] 88 (0, 0))) := ⟨h2_⟩
                have n3_ : Aside0 (w82.heap[gb350]? = some (.cells #[.int .i64 0, .int .i64 0, .int .i64 0] 50 (0, 0))) := ⟨h3_⟩
                have n4_ : Aside0 (w.heap.size ≤ gb350) := ⟨h4_⟩
                have n5_ : Aside0 (w.heap.size ≤ gb350) := ⟨h5_⟩
                have n6_ : Aside0 (gb334 ≠ gb350) := ⟨h6_⟩
                have n7_ : Aside0 (gb350 ≠ gb334) := ⟨h7_⟩
                have n8_ : Aside0 (gb335 ≠ gb350) := ⟨h8_⟩
                have n9_ : Aside0 (gb350 ≠ gb335) := ⟨h9_⟩
                have n10_ : Aside0 (gb336 ≠ gb350) := ⟨h10_⟩
                have n11_ : Aside0 (gb350 ≠ gb336) := ⟨h11_⟩
                have n12_ : Aside0 (Below w.heap.size w w82) := ⟨h12_⟩
                clear BK334
                clear BK335
                clear BK336
                clear HB
                clear h0_ h1_ h2_ h3_ h4_ h5_ h6_ h7_ h8_ h9_ h10_ h11_ h12_
                have BK334 := n0_
                have BK335 := n1_
                have BK336 := n2_
                have BK350 := n3_
                have GW350 := n4_
                have GE350 := n5_
                have NB334_350 := n6_
                have NB350_334 := n7_
                have NB335_350 := n8_
                have NB350_335 := n9_
                have NB336_350 := n10_
                have NB350_336 := n11_
                have HB := n12_
                clear n0_ n1_ n2_ n3_ n4_ n5_ n6_ n7_ n8_ n9_ n10_ n11_ n12_
                have hHeld : w82.cell? ⟨gb336, 0, none⟩ = some (.int .i64 a2_1) ∧ w82.cell? ⟨gb336, 1, none⟩ = some (.int .i64 a2_2) := hS_
                refine norm_ (a' := ?_) ?_ ?_
                rotate_left
                ·simp only [putAll, Act.put, List.setIfInBounds_toArray, List.set_cons_zero, List.set_cons_succ]
                 rfl
                refine one_ (i := 12) (N := some 87) #[true, true, true, true, true, true, true, true, true, true, true, true, true, false, true, false, true, true, true, true, true, false, false, false, false, true, false] rfl rfl (one_of HT_.out (by kernel_rfl)) (by decide) (fun K hK => ?_)
                refine goes_ Try.func45 (by kernel_rfl) rfl #[.agg #[.int .i64 a2_1, .int .i64 a2_2]] (by rfl) rfl rfl (by (try simp only [List.map_toArray, List.map_cons, List.map_nil]); first | done | rfl | (simp only [List.length_drop, List.length_take]; rfl)) ?_
                with_reducible refine (score_weights_product.calls a2_1 a2_2 t348 _ A74.out).mono ?_
                rintro e w83 ⟨rfl, hb⟩
                refine ⟨_, rfl, ?_⟩
                have n0_ := Aside0.mk (blk_below (g := gb334) (o := .cells #[.int .i64 a2_0, .int .i64 a2_1, .int .i64 a2_2] 65 (0, 0)) (by (with_reducible repeat (first | refine blk_drewN ?_ _ | refine blk_drew ?_ | refine blk_alloc ?_ _)); exact BK334.out) hb)
                have n1_ := Aside0.mk (blk_below (g := gb335) (o := .cells #[.int .i64 x336000_2, .int .i64 x336001_2, .int .i64 x336002_2] 50 (0, 0)) (by (with_reducible repeat (first | refine blk_drewN ?_ _ | refine blk_drew ?_ | refine blk_alloc ?_ _)); exact BK335.out) hb)
                have n2_ := Aside0.mk (blk_below (g := gb336) (o := .cells #[.int .i64 a2_1, .int .i64 a2_2] 88 (0, 0)) (by (with_reducible repeat (first | refine blk_drewN ?_ _ | refine blk_drew ?_ | refine blk_alloc ?_ _)); exact BK336.out) hb)
                have n3_ := Aside0.mk (blk_below (g := gb350) (o := .cells #[.int .i64 0, .int .i64 0, .int .i64 0] 50 (0, 0)) (by (with_reducible repeat (first | refine blk_drewN ?_ _ | refine blk_drew ?_ | refine blk_alloc ?_ _)); exact BK350.out) hb)
                have n4_ := Aside0.mk (below_step (by repeat (first | (with_reducible first | exact HB.out | apply below_alloc | apply pw_below_drewN | apply below_drew1 | refine below_set ?_ GE334.out | refine below_set ?_ GE335.out | refine below_set ?_ GE336.out | refine below_set ?_ GE350.out) | exact HB.out)) hb)
                clear BK334
                clear BK335
                clear BK336
                clear BK350
                clear HB
                have BK334 := n0_
                have BK335 := n1_
                have BK336 := n2_
                have BK350 := n3_
                have HB := n4_
                clear n0_ n1_ n2_ n3_ n4_
                (try clear hb)
                (try clear hb2)
                (try clear hk)
                (try clear hi)
                refine hK.out _ _ ⟨(blk_cell BK336.out 0).trans rfl, (blk_cell BK336.out 1).trans rfl⟩ (fun hHeld => ?_)
                clear hK K
                refine norm_ (a' := ?_) ?_ ?_
                rotate_left
                ·show Act.put _ (some 87) _ = _
                 simp only [Act.put, List.setIfInBounds_toArray, List.set_cons_zero, List.set_cons_succ, i64_w, i32_w]
                 rfl
                refine pure_ (i := 13) (N := some 88) (v := ?_) (a' := ?_) #[true, true, true, true, true, true, true, true, true, true, true, true, true, true, true, false, true, true, true, true, true, false, false, false, false, true, false] rfl rfl (any_of HT_.out (by kernel_rfl)) (fun _ _ _ h => h) (Or.inl ⟨by rfl, ?_⟩) ?_ ?_
                rotate_left
                ·intro w'
                 go_simp
                 with_reducible rfl
                rotate_left
                ·simp only [Act.put, List.setIfInBounds_toArray, List.set_cons_zero, List.set_cons_succ, i64_w, i32_w]
                 rfl
                exact norm_ (by first | (simp only [putAll, Act.put, List.setIfInBounds_toArray, List.set_cons_zero, List.set_cons_succ]; done) | (simp only [putAll, Act.put, List.setIfInBounds_toArray, List.set_cons_zero, List.set_cons_succ]; rfl)) (hJ1_7_12_25 (gb350) _ ⟨hHeld, (by (with_reducible repeat (first | refine blk_drewN ?_ _ | refine blk_drew ?_ | refine blk_alloc ?_ _)); exact BK334.out), (by (with_reducible repeat (first | refine blk_drewN ?_ _ | refine blk_drew ?_ | refine blk_alloc ?_ _)); exact BK335.out), (by (with_reducible repeat (first | refine blk_drewN ?_ _ | refine blk_drew ?_ | refine blk_alloc ?_ _)); exact BK336.out), (by (with_reducible repeat (first | refine blk_drewN ?_ _ | refine blk_drew ?_ | refine blk_alloc ?_ _)); exact BK350.out), GW350.out, GE350.out, NB334_350.out, NB350_334.out, NB335_350.out, NB350_335.out, NB336_350.out, NB350_336.out, (by repeat (first | (with_reducible first | exact HB.out | apply below_alloc | apply pw_below_drewN | apply below_drew1 | refine below_set ?_ GE334.out | refine below_set ?_ GE335.out | refine below_set ?_ GE336.out | refine below_set ?_ GE350.out) | exact HB.out))⟩)
              ·skip
               rintro _ w82 ⟨hS_, h0_, h1_, h2_, h3_⟩
               have n0_ : Aside0 (w82.heap[gb334]? = some (.cells #[.int .i64 a2_0, .int .i64 a2_1, .int .i64 a2_2] 65 (0, 0))) := ⟨h0_⟩
               have n1_ : Aside0 (w82.heap[gb335]? = some (.cells #[.int .i64 x336000_2, .int .i64 x336001_2, .int .i64 x336002_2] 50 (0, 0))) := ⟨h1_⟩
               have n2_ : Aside0 (w82.heap[gb336]? = some (.cells #[.int .i64 a2_1, .int .i64 a2_2] 88 (0, 0))) := ⟨h2_⟩
               have n3_ : Aside0 (Below w.heap.size w w82) := ⟨h3_⟩
               clear BK334
               clear BK335
               clear BK336
               clear HB
               clear h0_ h1_ h2_ h3_
               have BK334 := n0_
               have BK335 := n1_
               have BK336 := n2_
               have HB := n3_
               clear n0_ n1_ n2_ n3_
               have hHeld : w82.cell? ⟨gb336, 0, none⟩ = some (.int .i64 a2_1) ∧ w82.cell? ⟨gb336, 1, none⟩ = some (.int .i64 a2_2) := hS_
               refine norm_ (a' := ?_) ?_ ?_
               rotate_left
               ·simp only [putAll, Act.put, List.setIfInBounds_toArray, List.set_cons_zero, List.set_cons_succ]
                rfl
               refine two_ (i := 15) (j := 25) (Ni := some 90) (Nj := some 17) #[true, true, true, true, true, true, true, true, true, true, true, true, true, true, true, true, true, true, true, true, true, false, false, false, false, false, false] #[true, true, true, true, true, true, true, true, true, true, true, true, true, true, true, false, true, true, true, true, true, false, false, false, false, true, false] rfl rfl rfl rfl (two_of HT_.out (by kernel_rfl)) (by decide) (by decide) (fun K hK => ?_) (fun K hK => ?_)
               ·skip
                refine goes_ Try.func46 (by kernel_rfl) rfl #[.agg #[.int .i64 a2_1, .int .i64 a2_2]] (by rfl) rfl rfl (by (try simp only [List.map_toArray, List.map_cons, List.map_nil]); first | done | rfl | (simp only [List.length_drop, List.length_take]; rfl)) ?_
                with_reducible refine (score_weights_sum.calls a2_1 a2_2 t349 _ A75.out).mono ?_
                rintro e w83 ⟨rfl, hb⟩
                refine ⟨_, rfl, ?_⟩
                have n0_ := Aside0.mk (blk_below (g := gb334) (o := .cells #[.int .i64 a2_0, .int .i64 a2_1, .int .i64 a2_2] 65 (0, 0)) (by (with_reducible repeat (first | refine blk_drewN ?_ _ | refine blk_drew ?_ | refine blk_alloc ?_ _)); exact BK334.out) hb)
                have n1_ := Aside0.mk (blk_below (g := gb335) (o := .cells #[.int .i64 x336000_2, .int .i64 x336001_2, .int .i64 x336002_2] 50 (0, 0)) (by (with_reducible repeat (first | refine blk_drewN ?_ _ | refine blk_drew ?_ | refine blk_alloc ?_ _)); exact BK335.out) hb)
                have n2_ := Aside0.mk (blk_below (g := gb336) (o := .cells #[.int .i64 a2_1, .int .i64 a2_2] 88 (0, 0)) (by (with_reducible repeat (first | refine blk_drewN ?_ _ | refine blk_drew ?_ | refine blk_alloc ?_ _)); exact BK336.out) hb)
                have n3_ := Aside0.mk (below_step (by repeat (first | (with_reducible first | exact HB.out | apply below_alloc | apply pw_below_drewN | apply below_drew1 | refine below_set ?_ GE334.out | refine below_set ?_ GE335.out | refine below_set ?_ GE336.out) | exact HB.out)) hb)
                clear BK334
                clear BK335
                clear BK336
                clear HB
                have BK334 := n0_
                have BK335 := n1_
                have BK336 := n2_
                have HB := n3_
                clear n0_ n1_ n2_ n3_
                (try clear hb)
                (try clear hb2)
                (try clear hk)
                (try clear hi)
                refine hK.out _ _ ⟨(blk_cell BK336.out 0).trans rfl, (blk_cell BK336.out 1).trans rfl⟩ (fun hHeld => ?_)
                clear hK K
                refine norm_ (a' := ?_) ?_ ?_
                rotate_left
                ·show Act.put _ (some 90) _ = _
                 simp only [Act.put, List.setIfInBounds_toArray, List.set_cons_zero, List.set_cons_succ, i64_w, i32_w]
                 rfl
                refine pure_ (i := 21) (N := some 96) (v := ?_) (a' := ?_) #[true, true, true, true, true, true, true, true, true, true, true, true, true, true, true, true, true, true, true, true, true, true, false, false, false, false, false] rfl rfl (any_of HT_.out (by kernel_rfl)) (fun _ _ _ h => h) (Or.inl ⟨by rfl, ?_⟩) ?_ ?_
                rotate_left
                ·intro w'
                 go_simp
                 with_reducible rfl
                rotate_left
                ·simp only [Act.put, List.setIfInBounds_toArray, List.set_cons_zero, List.set_cons_succ, i64_w, i32_w]
                 rfl
                refine pure_ (i := 22) (N := some 97) (v := ?_) (a' := ?_) #[true, true, true, true, true, true, true, true, true, true, true, true, true, true, true, true, true, true, true, true, true, true, true, false, false, false, false] rfl rfl (any_of HT_.out (by kernel_rfl)) (fun _ _ _ h => h) (Or.inl ⟨by rfl, ?_⟩) ?_ ?_
                rotate_left
                ·intro w'
                 go_simp
                 with_reducible rfl
                rotate_left
                ·simp only [Act.put, List.setIfInBounds_toArray, List.set_cons_zero, List.set_cons_succ, i64_w, i32_w]
                 rfl
                refine pure_ (i := 23) (N := some 98) (v := ?_) (a' := ?_) #[true, true, true, true, true, true, true, true, true, true, true, true, true, true, true, true, true, true, true, true, true, true, true, true, false, false, false] rfl rfl (any_of HT_.out (by kernel_rfl)) (fun _ _ _ h => h) (Or.inl ⟨by rfl, ?_⟩) ?_ ?_
                rotate_left
                ·intro w'
                 go_simp
                 with_reducible rfl
                rotate_left
                ·simp only [Act.put, List.setIfInBounds_toArray, List.set_cons_zero, List.set_cons_succ, i64_w, i32_w]
                 rfl
                refine pure_ (i := 24) (N := some 99) (v := ?_) (a' := ?_) #[true, true, true, true, true, true, true, true, true, true, true, true, true, true, true, true, true, true, true, true, true, true, true, true, true, false, false] rfl rfl (any_of HT_.out (by kernel_rfl)) (fun _ _ _ h => h) (Or.inl ⟨by rfl, ?_⟩) ?_ ?_
                rotate_left
                ·intro w'
                 go_simp
                 with_reducible rfl
                rotate_left
                ·simp only [Act.put, List.setIfInBounds_toArray, List.set_cons_zero, List.set_cons_succ, i64_w, i32_w]
                 rfl
                exact norm_ (by first | (simp only [putAll, Act.put, List.setIfInBounds_toArray, List.set_cons_zero, List.set_cons_succ]; done) | (simp only [putAll, Act.put, List.setIfInBounds_toArray, List.set_cons_zero, List.set_cons_succ]; rfl)) (hJ1_7_12_15 () _ ⟨hHeld, (by (with_reducible repeat (first | refine blk_drewN ?_ _ | refine blk_drew ?_ | refine blk_alloc ?_ _)); exact BK334.out), (by (with_reducible repeat (first | refine blk_drewN ?_ _ | refine blk_drew ?_ | refine blk_alloc ?_ _)); exact BK335.out), (by (with_reducible repeat (first | refine blk_drewN ?_ _ | refine blk_drew ?_ | refine blk_alloc ?_ _)); exact BK336.out), (by repeat (first | (with_reducible first | exact HB.out | apply below_alloc | apply pw_below_drewN | apply below_drew1 | refine below_set ?_ GE334.out | refine below_set ?_ GE335.out | refine below_set ?_ GE336.out) | exact HB.out))⟩)
               ·skip
                refine box_step ?hg (N := 17) ?hd (cs := #[.int .i64 0, .int .i64 0, .int .i64 0]) (t := 50) ?hr ?_; (case hd => rfl); (case hg => rfl); (case hr => first | (go_simp; done) | (go_simp; rfl))
                intro gb350 hg w83 hbox hb
                have n0_ := Aside0.mk (blk_below (g := gb334) (o := .cells #[.int .i64 a2_0, .int .i64 a2_1, .int .i64 a2_2] 65 (0, 0)) (by (with_reducible repeat (first | refine blk_drewN ?_ _ | refine blk_drew ?_ | refine blk_alloc ?_ _)); exact BK334.out) hb)
                have n1_ := Aside0.mk (blk_below (g := gb335) (o := .cells #[.int .i64 x336000_2, .int .i64 x336001_2, .int .i64 x336002_2] 50 (0, 0)) (by (with_reducible repeat (first | refine blk_drewN ?_ _ | refine blk_drew ?_ | refine blk_alloc ?_ _)); exact BK335.out) hb)
                have n2_ := Aside0.mk (blk_below (g := gb336) (o := .cells #[.int .i64 a2_1, .int .i64 a2_2] 88 (0, 0)) (by (with_reducible repeat (first | refine blk_drewN ?_ _ | refine blk_drew ?_ | refine blk_alloc ?_ _)); exact BK336.out) hb)
                have n3_ := Aside0.mk (below_step (by repeat (first | (with_reducible first | exact HB.out | apply below_alloc | apply pw_below_drewN | apply below_drew1 | refine below_set ?_ GE334.out | refine below_set ?_ GE335.out | refine below_set ?_ GE336.out) | exact HB.out)) hb)
                have n4_ := Aside0.mk (hbox)
                have n5_ := Aside0.mk ((by rw [hg]; exact (below_size (by repeat (first | (with_reducible first | exact HB.out | apply below_alloc | apply pw_below_drewN | apply below_drew1 | refine below_set ?_ GE334.out | refine below_set ?_ GE335.out | refine below_set ?_ GE336.out) | exact HB.out))) : w.heap.size ≤ gb350))
                have n6_ := Aside0.mk ((by rw [hg]; exact (below_size (by repeat (first | (with_reducible first | exact HB.out | apply below_alloc | apply pw_below_drewN | apply below_drew1 | refine below_set ?_ GE334.out | refine below_set ?_ GE335.out | refine below_set ?_ GE336.out) | exact HB.out))) : w.heap.size ≤ gb350))
                have n7_ := Aside0.mk ((by rw [hg]; exact Nat.ne_of_lt (blk_lt (g := gb334) (o := .cells #[.int .i64 a2_0, .int .i64 a2_1, .int .i64 a2_2] 65 (0, 0)) (by (with_reducible repeat (first | refine blk_drewN ?_ _ | refine blk_drew ?_ | refine blk_alloc ?_ _)); exact BK334.out)) : gb334 ≠ gb350))
                have n8_ := Aside0.mk ((by rw [hg]; exact Nat.ne_of_gt (blk_lt (g := gb334) (o := .cells #[.int .i64 a2_0, .int .i64 a2_1, .int .i64 a2_2] 65 (0, 0)) (by (with_reducible repeat (first | refine blk_drewN ?_ _ | refine blk_drew ?_ | refine blk_alloc ?_ _)); exact BK334.out)) : gb350 ≠ gb334))
                have n9_ := Aside0.mk ((by rw [hg]; exact Nat.ne_of_lt (blk_lt (g := gb335) (o := .cells #[.int .i64 x336000_2, .int .i64 x336001_2, .int .i64 x336002_2] 50 (0, 0)) (by (with_reducible repeat (first | refine blk_drewN ?_ _ | refine blk_drew ?_ | refine blk_alloc ?_ _)); exact BK335.out)) : gb335 ≠ gb350))
                have n10_ := Aside0.mk ((by rw [hg]; exact Nat.ne_of_gt (blk_lt (g := gb335) (o := .cells #[.int .i64 x336000_2, .int .i64 x336001_2, .int .i64 x336002_2] 50 (0, 0)) (by (with_reducible repeat (first | refine blk_drewN ?_ _ | refine blk_drew ?_ | refine blk_alloc ?_ _)); exact BK335.out)) : gb350 ≠ gb335))
                have n11_ := Aside0.mk ((by rw [hg]; exact Nat.ne_of_lt (blk_lt (g := gb336) (o := .cells #[.int .i64 a2_1, .int .i64 a2_2] 88 (0, 0)) (by (with_reducible repeat (first | refine blk_drewN ?_ _ | refine blk_drew ?_ | refine blk_alloc ?_ _)); exact BK336.out)) : gb336 ≠ gb350))
                have n12_ := Aside0.mk ((by rw [hg]; exact Nat.ne_of_gt (blk_lt (g := gb336) (o := .cells #[.int .i64 a2_1, .int .i64 a2_2] 88 (0, 0)) (by (with_reducible repeat (first | refine blk_drewN ?_ _ | refine blk_drew ?_ | refine blk_alloc ?_ _)); exact BK336.out)) : gb350 ≠ gb336))
                clear BK334
                clear BK335
                clear BK336
                clear HB
                have BK334 := n0_
                have BK335 := n1_
                have BK336 := n2_
                have HB := n3_
                have BK350 := n4_
                have GW350 := n5_
                have GE350 := n6_
                have NB334_350 := n7_
                have NB350_334 := n8_
                have NB335_350 := n9_
                have NB350_335 := n10_
                have NB336_350 := n11_
                have NB350_336 := n12_
                clear n0_ n1_ n2_ n3_ n4_ n5_ n6_ n7_ n8_ n9_ n10_ n11_ n12_
                clear hb hbox hg
                refine hK.out _ _ ⟨(blk_cell BK336.out 0).trans rfl, (blk_cell BK336.out 1).trans rfl⟩ (fun hHeld => ?_)
                clear hK K
                refine norm_ (a' := ?_) ?_ ?_
                rotate_left
                ·show Act.put _ (some 17) _ = _
                 simp only [Act.put, List.setIfInBounds_toArray, List.set_cons_zero, List.set_cons_succ, i64_w, i32_w]
                 rfl
                exact norm_ (by first | (simp only [putAll, Act.put, List.setIfInBounds_toArray, List.set_cons_zero, List.set_cons_succ]; done) | (simp only [putAll, Act.put, List.setIfInBounds_toArray, List.set_cons_zero, List.set_cons_succ]; rfl)) (hJ1_7_12_25 (gb350) _ ⟨hHeld, (by (with_reducible repeat (first | refine blk_drewN ?_ _ | refine blk_drew ?_ | refine blk_alloc ?_ _)); exact BK334.out), (by (with_reducible repeat (first | refine blk_drewN ?_ _ | refine blk_drew ?_ | refine blk_alloc ?_ _)); exact BK335.out), (by (with_reducible repeat (first | refine blk_drewN ?_ _ | refine blk_drew ?_ | refine blk_alloc ?_ _)); exact BK336.out), (by (with_reducible repeat (first | refine blk_drewN ?_ _ | refine blk_drew ?_ | refine blk_alloc ?_ _)); exact BK350.out), GW350.out, GE350.out, NB334_350.out, NB350_334.out, NB335_350.out, NB350_335.out, NB336_350.out, NB350_336.out, (by repeat (first | (with_reducible first | exact HB.out | apply below_alloc | apply pw_below_drewN | apply below_drew1 | refine below_set ?_ GE334.out | refine below_set ?_ GE335.out | refine below_set ?_ GE336.out | refine below_set ?_ GE350.out) | exact HB.out))⟩)
             ·skip
              rintro gb350 w83 ⟨hS_, h0_, h1_, h2_, h3_, h4_, h5_, h6_, h7_, h8_, h9_, h10_, h11_, h12_⟩
              have n0_ : Aside0 (w83.heap[gb334]? = some (.cells #[.int .i64 a2_0, .int .i64 a2_1, .int .i64 a2_2] 65 (0, 0))) := ⟨h0_⟩
              have n1_ : Aside0 (w83.heap[gb335]? = some (.cells #[.int .i64 x336000_2, .int .i64 x336001_2, .int .i64 x336002_2] 50 (0, 0))) := ⟨h1_⟩
              have n2_ : Aside0 (w83.heap[gb336]? = some (.cells #[.int .i64 a2_1, .int .i64 a2_2] 88 (0, 0))) := ⟨h2_⟩
              have n3_ : Aside0 (w83.heap[gb350]? = some (.cells #[.int .i64 0, .int .i64 0, .int .i64 0] 50 (0, 0))) := ⟨h3_⟩
              have n4_ : Aside0 (w.heap.size ≤ gb350) := ⟨h4_⟩
              have n5_ : Aside0 (w.heap.size ≤ gb350) := ⟨h5_⟩
              have n6_ : Aside0 (gb334 ≠ gb350) := ⟨h6_⟩
              have n7_ : Aside0 (gb350 ≠ gb334) := ⟨h7_⟩
              have n8_ : Aside0 (gb335 ≠ gb350) := ⟨h8_⟩
              have n9_ : Aside0 (gb350 ≠ gb335) := ⟨h9_⟩
              have n10_ : Aside0 (gb336 ≠ gb350) := ⟨h10_⟩
              have n11_ : Aside0 (gb350 ≠ gb336) := ⟨h11_⟩
              have n12_ : Aside0 (Below w.heap.size w w83) := ⟨h12_⟩
              clear BK334
              clear BK335
              clear BK336
              clear HB
              clear h0_ h1_ h2_ h3_ h4_ h5_ h6_ h7_ h8_ h9_ h10_ h11_ h12_
              have BK334 := n0_
              have BK335 := n1_
              have BK336 := n2_
              have BK350 := n3_
              have GW350 := n4_
              have GE350 := n5_
              have NB334_350 := n6_
              have NB350_334 := n7_
              have NB335_350 := n8_
              have NB350_335 := n9_
              have NB336_350 := n10_
              have NB350_336 := n11_
              have HB := n12_
              clear n0_ n1_ n2_ n3_ n4_ n5_ n6_ n7_ n8_ n9_ n10_ n11_ n12_
              have hHeld : w83.cell? ⟨gb336, 0, none⟩ = some (.int .i64 a2_1) ∧ w83.cell? ⟨gb336, 1, none⟩ = some (.int .i64 a2_2) := hS_
              refine norm_ (a' := ?_) ?_ ?_
              rotate_left
              ·simp only [putAll, Act.put, List.setIfInBounds_toArray, List.set_cons_zero, List.set_cons_succ]
               rfl
              refine one_ (i := 15) (N := some 90) #[true, true, true, true, true, true, true, true, true, true, true, true, true, true, true, true, true, true, true, true, true, false, false, false, false, true, false] rfl rfl (one_of HT_.out (by kernel_rfl)) (by decide) (fun K hK => ?_)
              refine goes_ Try.func46 (by kernel_rfl) rfl #[.agg #[.int .i64 a2_1, .int .i64 a2_2]] (by rfl) rfl rfl (by (try simp only [List.map_toArray, List.map_cons, List.map_nil]); first | done | rfl | (simp only [List.length_drop, List.length_take]; rfl)) ?_
              with_reducible refine (score_weights_sum.calls a2_1 a2_2 t349 _ A75.out).mono ?_
              rintro e w84 ⟨rfl, hb⟩
              refine ⟨_, rfl, ?_⟩
              have n0_ := Aside0.mk (blk_below (g := gb334) (o := .cells #[.int .i64 a2_0, .int .i64 a2_1, .int .i64 a2_2] 65 (0, 0)) (by (with_reducible repeat (first | refine blk_drewN ?_ _ | refine blk_drew ?_ | refine blk_alloc ?_ _)); exact BK334.out) hb)
              have n1_ := Aside0.mk (blk_below (g := gb335) (o := .cells #[.int .i64 x336000_2, .int .i64 x336001_2, .int .i64 x336002_2] 50 (0, 0)) (by (with_reducible repeat (first | refine blk_drewN ?_ _ | refine blk_drew ?_ | refine blk_alloc ?_ _)); exact BK335.out) hb)
              have n2_ := Aside0.mk (blk_below (g := gb336) (o := .cells #[.int .i64 a2_1, .int .i64 a2_2] 88 (0, 0)) (by (with_reducible repeat (first | refine blk_drewN ?_ _ | refine blk_drew ?_ | refine blk_alloc ?_ _)); exact BK336.out) hb)
              have n3_ := Aside0.mk (blk_below (g := gb350) (o := .cells #[.int .i64 0, .int .i64 0, .int .i64 0] 50 (0, 0)) (by (with_reducible repeat (first | refine blk_drewN ?_ _ | refine blk_drew ?_ | refine blk_alloc ?_ _)); exact BK350.out) hb)
              have n4_ := Aside0.mk (below_step (by repeat (first | (with_reducible first | exact HB.out | apply below_alloc | apply pw_below_drewN | apply below_drew1 | refine below_set ?_ GE334.out | refine below_set ?_ GE335.out | refine below_set ?_ GE336.out | refine below_set ?_ GE350.out) | exact HB.out)) hb)
              clear BK334
              clear BK335
              clear BK336
              clear BK350
              clear HB
              have BK334 := n0_
              have BK335 := n1_
              have BK336 := n2_
              have BK350 := n3_
              have HB := n4_
              clear n0_ n1_ n2_ n3_ n4_
              (try clear hb)
              (try clear hb2)
              (try clear hk)
              (try clear hi)
              refine hK.out _ _ ⟨(blk_cell BK336.out 0).trans rfl, (blk_cell BK336.out 1).trans rfl⟩ (fun hHeld => ?_)
              clear hK K
              refine norm_ (a' := ?_) ?_ ?_
              rotate_left
              ·show Act.put _ (some 90) _ = _
               simp only [Act.put, List.setIfInBounds_toArray, List.set_cons_zero, List.set_cons_succ, i64_w, i32_w]
               rfl
              refine pure_ (i := 21) (N := some 96) (v := ?_) (a' := ?_) #[true, true, true, true, true, true, true, true, true, true, true, true, true, true, true, true, true, true, true, true, true, true, false, false, false, true, false] rfl rfl (any_of HT_.out (by kernel_rfl)) (fun _ _ _ h => h) (Or.inl ⟨by rfl, ?_⟩) ?_ ?_
              rotate_left
              ·intro w'
               go_simp
               with_reducible rfl
              rotate_left
              ·simp only [Act.put, List.setIfInBounds_toArray, List.set_cons_zero, List.set_cons_succ, i64_w, i32_w]
               rfl
              refine pure_ (i := 22) (N := some 97) (v := ?_) (a' := ?_) #[true, true, true, true, true, true, true, true, true, true, true, true, true, true, true, true, true, true, true, true, true, true, true, false, false, true, false] rfl rfl (any_of HT_.out (by kernel_rfl)) (fun _ _ _ h => h) (Or.inl ⟨by rfl, ?_⟩) ?_ ?_
              rotate_left
              ·intro w'
               go_simp
               with_reducible rfl
              rotate_left
              ·simp only [Act.put, List.setIfInBounds_toArray, List.set_cons_zero, List.set_cons_succ, i64_w, i32_w]
               rfl
              refine pure_ (i := 23) (N := some 98) (v := ?_) (a' := ?_) #[true, true, true, true, true, true, true, true, true, true, true, true, true, true, true, true, true, true, true, true, true, true, true, true, false, true, false] rfl rfl (any_of HT_.out (by kernel_rfl)) (fun _ _ _ h => h) (Or.inl ⟨by rfl, ?_⟩) ?_ ?_
              rotate_left
              ·intro w'
               go_simp
               with_reducible rfl
              rotate_left
              ·simp only [Act.put, List.setIfInBounds_toArray, List.set_cons_zero, List.set_cons_succ, i64_w, i32_w]
               rfl
              refine pure_ (i := 24) (N := some 99) (v := ?_) (a' := ?_) #[true, true, true, true, true, true, true, true, true, true, true, true, true, true, true, true, true, true, true, true, true, true, true, true, true, true, false] rfl rfl (any_of HT_.out (by kernel_rfl)) (fun _ _ _ h => h) (Or.inl ⟨by rfl, ?_⟩) ?_ ?_
              rotate_left
              ·intro w'
               go_simp
               with_reducible rfl
              rotate_left
              ·simp only [Act.put, List.setIfInBounds_toArray, List.set_cons_zero, List.set_cons_succ, i64_w, i32_w]
               rfl
              exact norm_ (by first | (simp only [putAll, Act.put, List.setIfInBounds_toArray, List.set_cons_zero, List.set_cons_succ]; done) | (simp only [putAll, Act.put, List.setIfInBounds_toArray, List.set_cons_zero, List.set_cons_succ]; rfl)) (hJ1_7_12_15_25 (gb350) _ ⟨hHeld, (by (with_reducible repeat (first | refine blk_drewN ?_ _ | refine blk_drew ?_ | refine blk_alloc ?_ _)); exact BK334.out), (by (with_reducible repeat (first | refine blk_drewN ?_ _ | refine blk_drew ?_ | refine blk_alloc ?_ _)); exact BK335.out), (by (with_reducible repeat (first | refine blk_drewN ?_ _ | refine blk_drew ?_ | refine blk_alloc ?_ _)); exact BK336.out), (by (with_reducible repeat (first | refine blk_drewN ?_ _ | refine blk_drew ?_ | refine blk_alloc ?_ _)); exact BK350.out), GW350.out, GE350.out, NB334_350.out, NB350_334.out, NB335_350.out, NB350_335.out, NB336_350.out, NB350_336.out, (by repeat (first | (with_reducible first | exact HB.out | apply below_alloc | apply pw_below_drewN | apply below_drew1 | refine below_set ?_ GE334.out | refine below_set ?_ GE335.out | refine below_set ?_ GE336.out | refine below_set ?_ GE350.out) | exact HB.out))⟩)
            ·skip
             rintro _ w83 ⟨hS_, h0_, h1_, h2_, h3_⟩
             have n0_ : Aside0 (w83.heap[gb334]? = some (.cells #[.int .i64 a2_0, .int .i64 a2_1, .int .i64 a2_2] 65 (0, 0))) := ⟨h0_⟩
             have n1_ : Aside0 (w83.heap[gb335]? = some (.cells #[.int .i64 x336000_2, .int .i64 x336001_2, .int .i64 x336002_2] 50 (0, 0))) := ⟨h1_⟩
             have n2_ : Aside0 (w83.heap[gb336]? = some (.cells #[.int .i64 a2_1, .int .i64 a2_2] 88 (0, 0))) := ⟨h2_⟩
             have n3_ : Aside0 (Below w.heap.size w w83) := ⟨h3_⟩
             clear BK334
             clear BK335
             clear BK336
             clear HB
             clear h0_ h1_ h2_ h3_
             have BK334 := n0_
             have BK335 := n1_
             have BK336 := n2_
             have HB := n3_
             clear n0_ n1_ n2_ n3_
             have hHeld : w83.cell? ⟨gb336, 0, none⟩ = some (.int .i64 a2_1) ∧ w83.cell? ⟨gb336, 1, none⟩ = some (.int .i64 a2_2) := hS_
             refine norm_ (a' := ?_) ?_ ?_
             rotate_left
             ·simp only [putAll, Act.put, List.setIfInBounds_toArray, List.set_cons_zero, List.set_cons_succ]
              rfl
             refine one_ (i := 25) (N := some 17) #[true, true, true, true, true, true, true, true, true, true, true, true, true, true, true, true, true, true, true, true, true, true, true, true, true, true, false] rfl rfl (one_of HT_.out (by kernel_rfl)) (by decide) (fun K hK => ?_)
             refine box_step ?hg (N := 17) ?hd (cs := #[.int .i64 0, .int .i64 0, .int .i64 0]) (t := 50) ?hr ?_; (case hd => rfl); (case hg => rfl); (case hr => first | (go_simp; done) | (go_simp; rfl))
             intro gb350 hg w84 hbox hb
             have n0_ := Aside0.mk (blk_below (g := gb334) (o := .cells #[.int .i64 a2_0, .int .i64 a2_1, .int .i64 a2_2] 65 (0, 0)) (by (with_reducible repeat (first | refine blk_drewN ?_ _ | refine blk_drew ?_ | refine blk_alloc ?_ _)); exact BK334.out) hb)
             have n1_ := Aside0.mk (blk_below (g := gb335) (o := .cells #[.int .i64 x336000_2, .int .i64 x336001_2, .int .i64 x336002_2] 50 (0, 0)) (by (with_reducible repeat (first | refine blk_drewN ?_ _ | refine blk_drew ?_ | refine blk_alloc ?_ _)); exact BK335.out) hb)
             have n2_ := Aside0.mk (blk_below (g := gb336) (o := .cells #[.int .i64 a2_1, .int .i64 a2_2] 88 (0, 0)) (by (with_reducible repeat (first | refine blk_drewN ?_ _ | refine blk_drew ?_ | refine blk_alloc ?_ _)); exact BK336.out) hb)
             have n3_ := Aside0.mk (below_step (by repeat (first | (with_reducible first | exact HB.out | apply below_alloc | apply pw_below_drewN | apply below_drew1 | refine below_set ?_ GE334.out | refine below_set ?_ GE335.out | refine below_set ?_ GE336.out) | exact HB.out)) hb)
             have n4_ := Aside0.mk (hbox)
             have n5_ := Aside0.mk ((by rw [hg]; exact (below_size (by repeat (first | (with_reducible first | exact HB.out | apply below_alloc | apply pw_below_drewN | apply below_drew1 | refine below_set ?_ GE334.out | refine below_set ?_ GE335.out | refine below_set ?_ GE336.out) | exact HB.out))) : w.heap.size ≤ gb350))
             have n6_ := Aside0.mk ((by rw [hg]; exact (below_size (by repeat (first | (with_reducible first | exact HB.out | apply below_alloc | apply pw_below_drewN | apply below_drew1 | refine below_set ?_ GE334.out | refine below_set ?_ GE335.out | refine below_set ?_ GE336.out) | exact HB.out))) : w.heap.size ≤ gb350))
             have n7_ := Aside0.mk ((by rw [hg]; exact Nat.ne_of_lt (blk_lt (g := gb334) (o := .cells #[.int .i64 a2_0, .int .i64 a2_1, .int .i64 a2_2] 65 (0, 0)) (by (with_reducible repeat (first | refine blk_drewN ?_ _ | refine blk_drew ?_ | refine blk_alloc ?_ _)); exact BK334.out)) : gb334 ≠ gb350))
             have n8_ := Aside0.mk ((by rw [hg]; exact Nat.ne_of_gt (blk_lt (g := gb334) (o := .cells #[.int .i64 a2_0, .int .i64 a2_1, .int .i64 a2_2] 65 (0, 0)) (by (with_reducible repeat (first | refine blk_drewN ?_ _ | refine blk_drew ?_ | refine blk_alloc ?_ _)); exact BK334.out)) : gb350 ≠ gb334))
             have n9_ := Aside0.mk ((by rw [hg]; exact Nat.ne_of_lt (blk_lt (g := gb335) (o := .cells #[.int .i64 x336000_2, .int .i64 x336001_2, .int .i64 x336002_2] 50 (0, 0)) (by (with_reducible repeat (first | refine blk_drewN ?_ _ | refine blk_drew ?_ | refine blk_alloc ?_ _)); exact BK335.out)) : gb335 ≠ gb350))
             have n10_ := Aside0.mk ((by rw [hg]; exact Nat.ne_of_gt (blk_lt (g := gb335) (o := .cells #[.int .i64 x336000_2, .int .i64 x336001_2, .int .i64 x336002_2] 50 (0, 0)) (by (with_reducible repeat (first | refine blk_drewN ?_ _ | refine blk_drew ?_ | refine blk_alloc ?_ _)); exact BK335.out)) : gb350 ≠ gb335))
             have n11_ := Aside0.mk ((by rw [hg]; exact Nat.ne_of_lt (blk_lt (g := gb336) (o := .cells #[.int .i64 a2_1, .int .i64 a2_2] 88 (0, 0)) (by (with_reducible repeat (first | refine blk_drewN ?_ _ | refine blk_drew ?_ | refine blk_alloc ?_ _)); exact BK336.out)) : gb336 ≠ gb350))
             have n12_ := Aside0.mk ((by rw [hg]; exact Nat.ne_of_gt (blk_lt (g := gb336) (o := .cells #[.int .i64 a2_1, .int .i64 a2_2] 88 (0, 0)) (by (with_reducible repeat (first | refine blk_drewN ?_ _ | refine blk_drew ?_ | refine blk_alloc ?_ _)); exact BK336.out)) : gb350 ≠ gb336))
             clear BK334
             clear BK335
             clear BK336
             clear HB
             have BK334 := n0_
             have BK335 := n1_
             have BK336 := n2_
             have HB := n3_
             have BK350 := n4_
             have GW350 := n5_
             have GE350 := n6_
             have NB334_350 := n7_
             have NB350_334 := n8_
             have NB335_350 := n9_
             have NB350_335 := n10_
             have NB336_350 := n11_
             have NB350_336 := n12_
             clear n0_ n1_ n2_ n3_ n4_ n5_ n6_ n7_ n8_ n9_ n10_ n11_ n12_
             clear hb hbox hg
             refine hK.out _ _ ⟨(blk_cell BK336.out 0).trans rfl, (blk_cell BK336.out 1).trans rfl⟩ (fun hHeld => ?_)
             clear hK K
             refine norm_ (a' := ?_) ?_ ?_
             rotate_left
             ·show Act.put _ (some 17) _ = _
              simp only [Act.put, List.setIfInBounds_toArray, List.set_cons_zero, List.set_cons_succ, i64_w, i32_w]
              rfl
             exact norm_ (by first | (simp only [putAll, Act.put, List.setIfInBounds_toArray, List.set_cons_zero, List.set_cons_succ]; done) | (simp only [putAll, Act.put, List.setIfInBounds_toArray, List.set_cons_zero, List.set_cons_succ]; rfl)) (hJ1_7_12_15_25 (gb350) _ ⟨hHeld, (by (with_reducible repeat (first | refine blk_drewN ?_ _ | refine blk_drew ?_ | refine blk_alloc ?_ _)); exact BK334.out), (by (with_reducible repeat (first | refine blk_drewN ?_ _ | refine blk_drew ?_ | refine blk_alloc ?_ _)); exact BK335.out), (by (with_reducible repeat (first | refine blk_drewN ?_ _ | refine blk_drew ?_ | refine blk_alloc ?_ _)); exact BK336.out), (by (with_reducible repeat (first | refine blk_drewN ?_ _ | refine blk_drew ?_ | refine blk_alloc ?_ _)); exact BK350.out), GW350.out, GE350.out, NB334_350.out, NB350_334.out, NB335_350.out, NB350_335.out, NB336_350.out, NB350_336.out, (by repeat (first | (with_reducible first | exact HB.out | apply below_alloc | apply pw_below_drewN | apply below_drew1 | refine below_set ?_ GE334.out | refine below_set ?_ GE335.out | refine below_set ?_ GE336.out | refine below_set ?_ GE350.out) | exact HB.out))⟩)
           rintro gb350 w84 ⟨hS_, h0_, h1_, h2_, h3_, h4_, h5_, h6_, h7_, h8_, h9_, h10_, h11_, h12_⟩
           have n0_ : Aside0 (w84.heap[gb334]? = some (.cells #[.int .i64 a2_0, .int .i64 a2_1, .int .i64 a2_2] 65 (0, 0))) := ⟨h0_⟩
           have n1_ : Aside0 (w84.heap[gb335]? = some (.cells #[.int .i64 x336000_2, .int .i64 x336001_2, .int .i64 x336002_2] 50 (0, 0))) := ⟨h1_⟩
           have n2_ : Aside0 (w84.heap[gb336]? = some (.cells #[.int .i64 a2_1, .int .i64 a2_2] 88 (0, 0))) := ⟨h2_⟩
           have n3_ : Aside0 (w84.heap[gb350]? = some (.cells #[.int .i64 0, .int .i64 0, .int .i64 0] 50 (0, 0))) := ⟨h3_⟩
           have n4_ : Aside0 (w.heap.size ≤ gb350) := ⟨h4_⟩
           have n5_ : Aside0 (w.heap.size ≤ gb350) := ⟨h5_⟩
           have n6_ : Aside0 (gb334 ≠ gb350) := ⟨h6_⟩
           have n7_ : Aside0 (gb350 ≠ gb334) := ⟨h7_⟩
           have n8_ : Aside0 (gb335 ≠ gb350) := ⟨h8_⟩
           have n9_ : Aside0 (gb350 ≠ gb335) := ⟨h9_⟩
           have n10_ : Aside0 (gb336 ≠ gb350) := ⟨h10_⟩
           have n11_ : Aside0 (gb350 ≠ gb336) := ⟨h11_⟩
           have n12_ : Aside0 (Below w.heap.size w w84) := ⟨h12_⟩
           clear BK334
           clear BK335
           clear BK336
           clear HB
           clear h0_ h1_ h2_ h3_ h4_ h5_ h6_ h7_ h8_ h9_ h10_ h11_ h12_
           have BK334 := n0_
           have BK335 := n1_
           have BK336 := n2_
           have BK350 := n3_
           have GW350 := n4_
           have GE350 := n5_
           have NB334_350 := n6_
           have NB350_334 := n7_
           have NB335_350 := n8_
           have NB350_335 := n9_
           have NB336_350 := n10_
           have NB350_336 := n11_
           have HB := n12_
           clear n0_ n1_ n2_ n3_ n4_ n5_ n6_ n7_ n8_ n9_ n10_ n11_ n12_
           have hHeld : w84.cell? ⟨gb336, 0, none⟩ = some (.int .i64 a2_1) ∧ w84.cell? ⟨gb336, 1, none⟩ = some (.int .i64 a2_2) := hS_
           refine norm_ (a' := ?_) ?_ ?_
           rotate_left
           ·simp only [putAll, Act.put, List.setIfInBounds_toArray, List.set_cons_zero, List.set_cons_succ]
            rfl
           refine one_ (i := 26) (N := none) #[true, true, true, true, true, true, true, true, true, true, true, true, true, true, true, true, true, true, true, true, true, true, true, true, true, true, true] rfl rfl (one_of HT_.out (by kernel_rfl)) (by decide) (fun K hK => ?_)
           have hs85 : w84.cell? ⟨gb350, 0, none⟩ = some (.int .i64 0) := (blk_cell BK350.out 0).trans rfl
           have hfs85 := blk_frozen BK350.out 0
           have hns85_0 := NB334_350.out
           have hns85_1 := NB335_350.out
           have hns85_2 := NB336_350.out
           have hms85_0 := NB350_334.out
           have hms85_1 := NB350_335.out
           have hms85_2 := NB350_336.out
           have hs86 : w84.cell? ⟨gb350, 1, none⟩ = some (.int .i64 0) := (blk_cell BK350.out 1).trans rfl
           have hfs86 := blk_frozen BK350.out 1
           have hns86_0 := NB334_350.out
           have hns86_1 := NB335_350.out
           have hns86_2 := NB336_350.out
           have hms86_0 := NB350_334.out
           have hms86_1 := NB350_335.out
           have hms86_2 := NB350_336.out
           have hs87 : w84.cell? ⟨gb350, 2, none⟩ = some (.int .i64 0) := (blk_cell BK350.out 2).trans rfl
           have hfs87 := blk_frozen BK350.out 2
           have hns87_0 := NB334_350.out
           have hns87_1 := NB335_350.out
           have hns87_2 := NB336_350.out
           have hms87_0 := NB350_334.out
           have hms87_1 := NB350_335.out
           have hms87_2 := NB350_336.out
           refine skip_ (w1 := ?_) (by rfl) rfl ?_ ?_
           rotate_left
           ·go_simp
            rfl
           refine hK.out _ _ ⟨((cell_far (p := ⟨gb350, _, none⟩) NB336_350.out _).trans (((cell_far (p := ⟨gb350, _, none⟩) NB336_350.out _).trans (((cell_far (p := ⟨gb350, _, none⟩) NB336_350.out _).trans (hHeld.1)))))), ((cell_far (p := ⟨gb350, _, none⟩) NB336_350.out _).trans (((cell_far (p := ⟨gb350, _, none⟩) NB336_350.out _).trans (((cell_far (p := ⟨gb350, _, none⟩) NB336_350.out _).trans (hHeld.2))))))⟩ (fun hHeld => ?_)
           clear hK K
           refine done_ (done_of HT_.out (by kernel_rfl)) ?_
           go_upto_region 14 with (fail)
           go_cut [18] (fun v18 wc => ∃ (kq : Nat) (x18_76 : Int), v18 = .int .i64 x18_76 ∧ Aside0 (score_Of.j3 kq l0 a1 x15_65 x16_65 x18_76 a2_1 a2_2 (wrap64 (t346 * (wrap64 (x16_65 - x15_65)))) (wrap64 (t347 * a3)) (wrap64 (a3 * (wrap64 ((wrap64 (2 * t348)) + (wrap64 (t349 * (ji76))))))) = some (r1, r2, r3, r4)) ∧ Aside0 (kq ≤ kj65) ∧ Aside0 (wc.heap[gb334]? = some (.cells #[.int .i64 a2_0, .int .i64 a2_1, .int .i64 a2_2] 65 (0, 0))) ∧ Aside0 (wc.heap[gb335]? = some (.cells #[.int .i64 x336000_2, .int .i64 x336001_2, .int .i64 x336002_2] 50 (0, 0))) ∧ Aside0 (wc.heap[gb336]? = some (.cells #[.int .i64 a2_1, .int .i64 a2_2] 88 (0, 0))) ∧ Aside0 (wc.heap[gb350]? = some (.cells #[.int .i64 (wrap64 (t346 * (wrap64 (x16_65 - x15_65)))), .int .i64 (wrap64 (t347 * a3)), .int .i64 (wrap64 (a3 * (wrap64 ((wrap64 (2 * t348)) + (wrap64 (t349 * (ji76)))))))] 50 (0, 0))) ∧ Aside0 (Below w.heap.size w wc))
           case first =>
            have H := HC77.out
            clear HC77
            by_cases c88 : 0 ≤ a1
            ·rw [if_pos c88] at H
             have c88b0 : decide (0 ≤ a1) = true := decide_eq_true c88
             clear c88
             (first | rw [c88b0] | (simp only [i64_w, i32_w]; rw [c88b0]) | skip)
             by_cases c89 : a1 < (l0.length : Int)
             ·rw [if_pos c89] at H
              have c89b0 : decide (a1 < (l0.length : Int)) = true := decide_eq_true c89
              clear c89
              have H' := Aside0.mk H
              clear H
              have p351 : 0 ≤ (a1 : Int) := of_decide_eq_true (by first | (with_reducible assumption) | assumption)
              have q351 : a1 < (l0.length : Int) := of_decide_eq_true (by first | (with_reducible assumption) | assumption)
              obtain ⟨ad351, e351, hx351_0, hx351_1, hx351_2, hx351_3, hx351_4, hx351_5, hx351_6, hx351_7, hx351_8, hx351_9⟩ := at_T70 HR0.out a1 p351 q351
              cases e351
              have hn351_0 : ad351.block ≠ gb350 := Nat.ne_of_lt (Nat.lt_of_lt_of_le (by have := World.block_lt_of_cell? _ _ hx351_0; first | rwa [add_block] at this | exact this) GW350.out)
              have hn351_1 : ad351.block ≠ gb350 := Nat.ne_of_lt (Nat.lt_of_lt_of_le (by have := World.block_lt_of_cell? _ _ hx351_0; first | rwa [add_block] at this | exact this) GW350.out)
              have hn351_2 : ad351.block ≠ gb350 := Nat.ne_of_lt (Nat.lt_of_lt_of_le (by have := World.block_lt_of_cell? _ _ hx351_0; first | rwa [add_block] at this | exact this) GW350.out)
              replace hx351_0 := (HB.out.cell (World.block_lt_of_cell? w _ hx351_0)).trans hx351_0
              replace hx351_1 := (HB.out.cell (World.block_lt_of_cell? w _ hx351_1)).trans hx351_1
              replace hx351_2 := (HB.out.cell (World.block_lt_of_cell? w _ hx351_2)).trans hx351_2
              replace hx351_3 := (HB.out.cell (World.block_lt_of_cell? w _ hx351_3)).trans hx351_3
              replace hx351_4 := (HB.out.cell (World.block_lt_of_cell? w _ hx351_4)).trans hx351_4
              replace hx351_5 := (HB.out.cell (World.block_lt_of_cell? w _ hx351_5)).trans hx351_5
              replace hx351_6 := (HB.out.cell (World.block_lt_of_cell? w _ hx351_6)).trans hx351_6
              replace hx351_7 := (HB.out.cell (World.block_lt_of_cell? w _ hx351_7)).trans hx351_7
              replace hx351_8 := (HB.out.cell (World.block_lt_of_cell? w _ hx351_8)).trans hx351_8
              replace hx351_9 := (HB.out.cell (World.block_lt_of_cell? w _ hx351_9)).trans hx351_9
              replace hx351_0 := (cell_far (p := ⟨gb350, 0, none⟩) (by first | (rw [add_block]; exact hn351_0) | (show (Addr.add _ _).block ≠ _; rw [add_block]; exact hn351_0) | exact hn351_0) (.int .i64 (wrap64 (t346 * (wrap64 (x16_65 - x15_65)))))).trans hx351_0
              replace hx351_1 := (cell_far (p := ⟨gb350, 0, none⟩) (by first | (rw [add_block]; exact hn351_0) | (show (Addr.add _ _).block ≠ _; rw [add_block]; exact hn351_0) | exact hn351_0) (.int .i64 (wrap64 (t346 * (wrap64 (x16_65 - x15_65)))))).trans hx351_1
              replace hx351_2 := (cell_far (p := ⟨gb350, 0, none⟩) (by first | (rw [add_block]; exact hn351_0) | (show (Addr.add _ _).block ≠ _; rw [add_block]; exact hn351_0) | exact hn351_0) (.int .i64 (wrap64 (t346 * (wrap64 (x16_65 - x15_65)))))).trans hx351_2
              replace hx351_3 := (cell_far (p := ⟨gb350, 0, none⟩) (by first | (rw [add_block]; exact hn351_0) | (show (Addr.add _ _).block ≠ _; rw [add_block]; exact hn351_0) | exact hn351_0) (.int .i64 (wrap64 (t346 * (wrap64 (x16_65 - x15_65)))))).trans hx351_3
              replace hx351_4 := (cell_far (p := ⟨gb350, 0, none⟩) (by first | (rw [add_block]; exact hn351_0) | (show (Addr.add _ _).block ≠ _; rw [add_block]; exact hn351_0) | exact hn351_0) (.int .i64 (wrap64 (t346 * (wrap64 (x16_65 - x15_65)))))).trans hx351_4
              replace hx351_5 := (cell_far (p := ⟨gb350, 0, none⟩) (by first | (rw [add_block]; exact hn351_0) | (show (Addr.add _ _).block ≠ _; rw [add_block]; exact hn351_0) | exact hn351_0) (.int .i64 (wrap64 (t346 * (wrap64 (x16_65 - x15_65)))))).trans hx351_5
              replace hx351_6 := (cell_far (p := ⟨gb350, 0, none⟩) (by first | (rw [add_block]; exact hn351_0) | (show (Addr.add _ _).block ≠ _; rw [add_block]; exact hn351_0) | exact hn351_0) (.int .i64 (wrap64 (t346 * (wrap64 (x16_65 - x15_65)))))).trans hx351_6
              replace hx351_7 := (cell_far (p := ⟨gb350, 0, none⟩) (by first | (rw [add_block]; exact hn351_0) | (show (Addr.add _ _).block ≠ _; rw [add_block]; exact hn351_0) | exact hn351_0) (.int .i64 (wrap64 (t346 * (wrap64 (x16_65 - x15_65)))))).trans hx351_7
              replace hx351_8 := (cell_far (p := ⟨gb350, 0, none⟩) (by first | (rw [add_block]; exact hn351_0) | (show (Addr.add _ _).block ≠ _; rw [add_block]; exact hn351_0) | exact hn351_0) (.int .i64 (wrap64 (t346 * (wrap64 (x16_65 - x15_65)))))).trans hx351_8
              replace hx351_9 := (cell_far (p := ⟨gb350, 0, none⟩) (by first | (rw [add_block]; exact hn351_0) | (show (Addr.add _ _).block ≠ _; rw [add_block]; exact hn351_0) | exact hn351_0) (.int .i64 (wrap64 (t346 * (wrap64 (x16_65 - x15_65)))))).trans hx351_9
              replace hx351_0 := (cell_far (p := ⟨gb350, 1, none⟩) (by first | (rw [add_block]; exact hn351_1) | (show (Addr.add _ _).block ≠ _; rw [add_block]; exact hn351_1) | exact hn351_1) (.int .i64 (wrap64 (t347 * a3)))).trans hx351_0
              replace hx351_1 := (cell_far (p := ⟨gb350, 1, none⟩) (by first | (rw [add_block]; exact hn351_1) | (show (Addr.add _ _).block ≠ _; rw [add_block]; exact hn351_1) | exact hn351_1) (.int .i64 (wrap64 (t347 * a3)))).trans hx351_1
              replace hx351_2 := (cell_far (p := ⟨gb350, 1, none⟩) (by first | (rw [add_block]; exact hn351_1) | (show (Addr.add _ _).block ≠ _; rw [add_block]; exact hn351_1) | exact hn351_1) (.int .i64 (wrap64 (t347 * a3)))).trans hx351_2
              replace hx351_3 := (cell_far (p := ⟨gb350, 1, none⟩) (by first | (rw [add_block]; exact hn351_1) | (show (Addr.add _ _).block ≠ _; rw [add_block]; exact hn351_1) | exact hn351_1) (.int .i64 (wrap64 (t347 * a3)))).trans hx351_3
              replace hx351_4 := (cell_far (p := ⟨gb350, 1, none⟩) (by first | (rw [add_block]; exact hn351_1) | (show (Addr.add _ _).block ≠ _; rw [add_block]; exact hn351_1) | exact hn351_1) (.int .i64 (wrap64 (t347 * a3)))).trans hx351_4
              replace hx351_5 := (cell_far (p := ⟨gb350, 1, none⟩) (by first | (rw [add_block]; exact hn351_1) | (show (Addr.add _ _).block ≠ _; rw [add_block]; exact hn351_1) | exact hn351_1) (.int .i64 (wrap64 (t347 * a3)))).trans hx351_5
              replace hx351_6 := (cell_far (p := ⟨gb350, 1, none⟩) (by first | (rw [add_block]; exact hn351_1) | (show (Addr.add _ _).block ≠ _; rw [add_block]; exact hn351_1) | exact hn351_1) (.int .i64 (wrap64 (t347 * a3)))).trans hx351_6
              replace hx351_7 := (cell_far (p := ⟨gb350, 1, none⟩) (by first | (rw [add_block]; exact hn351_1) | (show (Addr.add _ _).block ≠ _; rw [add_block]; exact hn351_1) | exact hn351_1) (.int .i64 (wrap64 (t347 * a3)))).trans hx351_7
              replace hx351_8 := (cell_far (p := ⟨gb350, 1, none⟩) (by first | (rw [add_block]; exact hn351_1) | (show (Addr.add _ _).block ≠ _; rw [add_block]; exact hn351_1) | exact hn351_1) (.int .i64 (wrap64 (t347 * a3)))).trans hx351_8
              replace hx351_9 := (cell_far (p := ⟨gb350, 1, none⟩) (by first | (rw [add_block]; exact hn351_1) | (show (Addr.add _ _).block ≠ _; rw [add_block]; exact hn351_1) | exact hn351_1) (.int .i64 (wrap64 (t347 * a3)))).trans hx351_9
              replace hx351_0 := (cell_far (p := ⟨gb350, 2, none⟩) (by first | (rw [add_block]; exact hn351_2) | (show (Addr.add _ _).block ≠ _; rw [add_block]; exact hn351_2) | exact hn351_2) (.int .i64 (wrap64 (a3 * (wrap64 ((wrap64 (2 * t348)) + (wrap64 (t349 * (ji76))))))))).trans hx351_0
              replace hx351_1 := (cell_far (p := ⟨gb350, 2, none⟩) (by first | (rw [add_block]; exact hn351_2) | (show (Addr.add _ _).block ≠ _; rw [add_block]; exact hn351_2) | exact hn351_2) (.int .i64 (wrap64 (a3 * (wrap64 ((wrap64 (2 * t348)) + (wrap64 (t349 * (ji76))))))))).trans hx351_1
              replace hx351_2 := (cell_far (p := ⟨gb350, 2, none⟩) (by first | (rw [add_block]; exact hn351_2) | (show (Addr.add _ _).block ≠ _; rw [add_block]; exact hn351_2) | exact hn351_2) (.int .i64 (wrap64 (a3 * (wrap64 ((wrap64 (2 * t348)) + (wrap64 (t349 * (ji76))))))))).trans hx351_2
              replace hx351_3 := (cell_far (p := ⟨gb350, 2, none⟩) (by first | (rw [add_block]; exact hn351_2) | (show (Addr.add _ _).block ≠ _; rw [add_block]; exact hn351_2) | exact hn351_2) (.int .i64 (wrap64 (a3 * (wrap64 ((wrap64 (2 * t348)) + (wrap64 (t349 * (ji76))))))))).trans hx351_3
              replace hx351_4 := (cell_far (p := ⟨gb350, 2, none⟩) (by first | (rw [add_block]; exact hn351_2) | (show (Addr.add _ _).block ≠ _; rw [add_block]; exact hn351_2) | exact hn351_2) (.int .i64 (wrap64 (a3 * (wrap64 ((wrap64 (2 * t348)) + (wrap64 (t349 * (ji76))))))))).trans hx351_4
              replace hx351_5 := (cell_far (p := ⟨gb350, 2, none⟩) (by first | (rw [add_block]; exact hn351_2) | (show (Addr.add _ _).block ≠ _; rw [add_block]; exact hn351_2) | exact hn351_2) (.int .i64 (wrap64 (a3 * (wrap64 ((wrap64 (2 * t348)) + (wrap64 (t349 * (ji76))))))))).trans hx351_5
              replace hx351_6 := (cell_far (p := ⟨gb350, 2, none⟩) (by first | (rw [add_block]; exact hn351_2) | (show (Addr.add _ _).block ≠ _; rw [add_block]; exact hn351_2) | exact hn351_2) (.int .i64 (wrap64 (a3 * (wrap64 ((wrap64 (2 * t348)) + (wrap64 (t349 * (ji76))))))))).trans hx351_6
              replace hx351_7 := (cell_far (p := ⟨gb350, 2, none⟩) (by first | (rw [add_block]; exact hn351_2) | (show (Addr.add _ _).block ≠ _; rw [add_block]; exact hn351_2) | exact hn351_2) (.int .i64 (wrap64 (a3 * (wrap64 ((wrap64 (2 * t348)) + (wrap64 (t349 * (ji76))))))))).trans hx351_7
              replace hx351_8 := (cell_far (p := ⟨gb350, 2, none⟩) (by first | (rw [add_block]; exact hn351_2) | (show (Addr.add _ _).block ≠ _; rw [add_block]; exact hn351_2) | exact hn351_2) (.int .i64 (wrap64 (a3 * (wrap64 ((wrap64 (2 * t348)) + (wrap64 (t349 * (ji76))))))))).trans hx351_8
              replace hx351_9 := (cell_far (p := ⟨gb350, 2, none⟩) (by first | (rw [add_block]; exact hn351_2) | (show (Addr.add _ _).block ≠ _; rw [add_block]; exact hn351_2) | exact hn351_2) (.int .i64 (wrap64 (a3 * (wrap64 ((wrap64 (2 * t348)) + (wrap64 (t349 * (ji76))))))))).trans hx351_9
              clear hn351_0
              clear hn351_1
              clear hn351_2
              replace p351 := eq_true p351
              replace q351 := eq_true q351
              go_wp2
              go_meet
              case rel => exact ⟨_, ((rd_T70 l0 a1).f1), (by first | rfl | (simp; done) | (simp [*]; done) | exact congrArg (Value.int _) (by unfold wrap64; omega)), H', ⟨by have := HJ5.out; have := HK2.out; have := HJ65.out; first | omega | exact Nat.le_refl _⟩, ⟨by (with_reducible repeat (first | refine blk_drewN ?_ _ | refine blk_drew ?_ | refine blk_alloc ?_ _)); refine blk_far ?_ NB334_350.out _; (with_reducible repeat (first | refine blk_drewN ?_ _ | refine blk_drew ?_ | refine blk_alloc ?_ _)); refine blk_far ?_ NB334_350.out _; (with_reducible repeat (first | refine blk_drewN ?_ _ | refine blk_drew ?_ | refine blk_alloc ?_ _)); refine blk_far ?_ NB334_350.out _; (with_reducible repeat (first | refine blk_drewN ?_ _ | refine blk_drew ?_ | refine blk_alloc ?_ _)); exact BK334.out⟩, ⟨by (with_reducible repeat (first | refine blk_drewN ?_ _ | refine blk_drew ?_ | refine blk_alloc ?_ _)); refine blk_far ?_ NB335_350.out _; (with_reducible repeat (first | refine blk_drewN ?_ _ | refine blk_drew ?_ | refine blk_alloc ?_ _)); refine blk_far ?_ NB335_350.out _; (with_reducible repeat (first | refine blk_drewN ?_ _ | refine blk_drew ?_ | refine blk_alloc ?_ _)); refine blk_far ?_ NB335_350.out _; (with_reducible repeat (first | refine blk_drewN ?_ _ | refine blk_drew ?_ | refine blk_alloc ?_ _)); exact BK335.out⟩, ⟨by (with_reducible repeat (first | refine blk_drewN ?_ _ | refine blk_drew ?_ | refine blk_alloc ?_ _)); refine blk_far ?_ NB336_350.out _; (with_reducible repeat (first | refine blk_drewN ?_ _ | refine blk_drew ?_ | refine blk_alloc ?_ _)); refine blk_far ?_ NB336_350.out _; (with_reducible repeat (first | refine blk_drewN ?_ _ | refine blk_drew ?_ | refine blk_alloc ?_ _)); refine blk_far ?_ NB336_350.out _; (with_reducible repeat (first | refine blk_drewN ?_ _ | refine blk_drew ?_ | refine blk_alloc ?_ _)); exact BK336.out⟩, ⟨by (with_reducible repeat (first | refine blk_drewN ?_ _ | refine blk_drew ?_ | refine blk_alloc ?_ _)); refine blk_put (cs := #[.int .i64 (wrap64 (t346 * (wrap64 (x16_65 - x15_65)))), .int .i64 (wrap64 (t347 * a3)), .int .i64 0]) ?_ 2 _ rfl; (with_reducible repeat (first | refine blk_drewN ?_ _ | refine blk_drew ?_ | refine blk_alloc ?_ _)); refine blk_put (cs := #[.int .i64 (wrap64 (t346 * (wrap64 (x16_65 - x15_65)))), .int .i64 0, .int .i64 0]) ?_ 1 _ rfl; (with_reducible repeat (first | refine blk_drewN ?_ _ | refine blk_drew ?_ | refine blk_alloc ?_ _)); refine blk_put (cs := #[.int .i64 0, .int .i64 0, .int .i64 0]) ?_ 0 _ rfl; (with_reducible repeat (first | refine blk_drewN ?_ _ | refine blk_drew ?_ | refine blk_alloc ?_ _)); exact BK350.out⟩, ⟨by repeat (first | (with_reducible first | exact HB.out | apply below_alloc | apply pw_below_drewN | apply below_drew1 | refine below_set ?_ GE334.out | refine below_set ?_ GE335.out | refine below_set ?_ GE336.out | refine below_set ?_ GE350.out) | exact HB.out)⟩⟩
             ·rw [if_neg c89] at H
              exact absurd H (by simp)
            ·rw [if_neg c88] at H
             exact absurd H (by simp)
           case rest =>
            clear HC77
            try clear p2
            try clear p3
            try clear q3
            try clear hx3
            try clear c4
            try clear p6
            try clear c8
            try clear p35
            try clear q35
            try clear hx35
            try clear c45
            try clear c46
            try clear p64
            try clear c88
            try clear c88b0
            try clear c89
            try clear c89b0
            try clear hx351_0
            try clear hx351_1
            try clear hx351_2
            try clear hx351_3
            try clear hx351_4
            try clear hx351_5
            try clear hx351_6
            try clear hx351_7
            try clear hx351_8
            try clear hx351_9
            try clear p351
            try clear q351
            obtain ⟨kq, x18_76, rfl, HA, HJ76, BK334, BK335, BK336, BK350, HB⟩ := hcut
            cases kq with
            | zero => exact absurd HA.out (by simp [score_Of.j3])
            | succ kj76 =>
             have H := HA.out
             clear HA
             simp only [score_Of.j3] at H
             by_cases c90 : 0 ≤ a1
             ·rw [if_pos c90] at H
              have c90b0 : decide (0 ≤ a1) = true := decide_eq_true c90
              clear c90
              by_cases c91 : a1 < (l0.length : Int)
              ·rw [if_pos c91] at H
               have c91b0 : decide (a1 < (l0.length : Int)) = true := decide_eq_true c91
               clear c91
               by_cases c92 : ((rd_T70 l0 a1).f0.f4) = 1
               ·rw [if_pos c92] at H
                have c92b0 : (((rd_T70 l0 a1).f0.f4) == 1) = true := beq_iff_eq.mpr c92
                have c92b1 : (((rd_T70 l0 a1).f0.f4) != 1) = false := bne_eq_false_iff_eq.mpr c92
                clear c92
                replace H := Option.bind_eq_some_iff.mp H
                obtain ⟨t353, A930, H⟩ := H
                replace H : (some (wrap64 ((wrap64 (t346 * (wrap64 (x16_65 - x15_65)))) - (wrap64 ((wrap64 (t353 * a2_2)) * (wrap64 (x18_76 - x15_65))))), (wrap64 (t347 * a3)), (wrap64 (a3 * (wrap64 ((wrap64 (2 * t348)) + (wrap64 (t349 * (ji76))))))), true)) = some (r1, r2, r3, r4) := H
                have A93 := Aside0.mk A930
                clear A930
                simp only [Option.some.injEq, Prod.mk.injEq] at H
                obtain ⟨rfl, rfl, rfl, rfl⟩ := H
                have p352 : 0 ≤ (a1 : Int) := of_decide_eq_true (by first | (with_reducible assumption) | assumption)
                have q352 : a1 < (l0.length : Int) := of_decide_eq_true (by first | (with_reducible assumption) | assumption)
                obtain ⟨ad352, e352, hx352_0, hx352_1, hx352_2, hx352_3, hx352_4, hx352_5, hx352_6, hx352_7, hx352_8, hx352_9⟩ := at_T70 HR0.out a1 p352 q352
                cases e352
                replace hx352_0 := (HB.out.cell (World.block_lt_of_cell? w _ hx352_0)).trans hx352_0
                replace hx352_1 := (HB.out.cell (World.block_lt_of_cell? w _ hx352_1)).trans hx352_1
                replace hx352_2 := (HB.out.cell (World.block_lt_of_cell? w _ hx352_2)).trans hx352_2
                replace hx352_3 := (HB.out.cell (World.block_lt_of_cell? w _ hx352_3)).trans hx352_3
                replace hx352_4 := (HB.out.cell (World.block_lt_of_cell? w _ hx352_4)).trans hx352_4
                replace hx352_5 := (HB.out.cell (World.block_lt_of_cell? w _ hx352_5)).trans hx352_5
                replace hx352_6 := (HB.out.cell (World.block_lt_of_cell? w _ hx352_6)).trans hx352_6
                replace hx352_7 := (HB.out.cell (World.block_lt_of_cell? w _ hx352_7)).trans hx352_7
                replace hx352_8 := (HB.out.cell (World.block_lt_of_cell? w _ hx352_8)).trans hx352_8
                replace hx352_9 := (HB.out.cell (World.block_lt_of_cell? w _ hx352_9)).trans hx352_9
                replace p352 := eq_true p352
                replace q352 := eq_true q352
                try go_wp2
                have n0_ := Aside0.mk (blk_drew BK334.out)
                have n1_ := Aside0.mk (blk_drew BK335.out)
                have n2_ := Aside0.mk (blk_drew BK336.out)
                have n3_ := Aside0.mk (blk_drew BK350.out)
                have n4_ := Aside0.mk (below_drew1 HB.out)
                clear BK334
                clear BK335
                clear BK336
                clear BK350
                clear HB
                have BK334 := n0_
                have BK335 := n1_
                have BK336 := n2_
                have BK350 := n3_
                have HB := n4_
                clear n0_ n1_ n2_ n3_ n4_
                refine start_ (n := 14) (S := fun w' => w'.cell? ⟨gb350, 0, none⟩ = some (.int .i64 (wrap64 (t346 * (wrap64 (x16_65 - x15_65))))) ∧ w'.cell? ⟨gb350, 1, none⟩ = some (.int .i64 (wrap64 (t347 * a3))) ∧ w'.cell? ⟨gb350, 2, none⟩ = some (.int .i64 (wrap64 (a3 * (wrap64 ((wrap64 (2 * t348)) + (wrap64 (t349 * (ji76)))))))) ∧ w'.cell? ⟨gb336, 0, none⟩ = some (.int .i64 a2_1) ∧ w'.cell? ⟨gb336, 1, none⟩ = some (.int .i64 a2_2)) (ds := [13]) #[false, false, false, false, false, false, false, false, false, false, false, false, false, false] (by kernel_rfl) rfl rfl ⟨(blk_cell BK350.out 0).trans rfl, (blk_cell BK350.out 1).trans rfl, (blk_cell BK350.out 2).trans rfl, (blk_cell BK336.out 0).trans rfl, (blk_cell BK336.out 1).trans rfl⟩ (fun hHeld => ?_); refine with_tabW score_Of.tab18 score_Of.bits18 (fun HT_ HW_ => ?_)
                generalize wc.drew = w94 at BK334 BK335 BK336 BK350 HB hHeld ⊢
                refine pure_ (i := 0) (N := some 114) (v := ?_) (a' := ?_) #[true, false, false, false, false, false, false, false, false, false, false, false, false, false] rfl rfl (any_of HT_.out (by kernel_rfl)) (fun _ _ _ h => h) (Or.inl ⟨by rfl, ?_⟩) ?_ ?_
                rotate_left
                ·intro w'
                 go_simp
                 with_reducible rfl
                rotate_left
                ·simp only [Act.put, List.setIfInBounds_toArray, List.set_cons_zero, List.set_cons_succ, i64_w, i32_w]
                 rfl
                refine pure_ (i := 4) (N := some 118) (v := ?_) (a' := ?_) #[true, false, false, false, true, false, false, false, false, false, false, false, false, false] rfl rfl (any_of HT_.out (by kernel_rfl)) (fun _ _ _ h => h) (Or.inl ⟨by rfl, ?_⟩) ?_ ?_
                rotate_left
                ·intro w'
                 go_simp
                 with_reducible rfl
                rotate_left
                ·simp only [Act.put, List.setIfInBounds_toArray, List.set_cons_zero, List.set_cons_succ, i64_w, i32_w]
                 rfl
                refine pure_ (i := 7) (N := some 121) (v := ?_) (a' := ?_) #[true, false, false, false, true, false, false, true, false, false, false, false, false, false] rfl rfl (any_of HT_.out (by kernel_rfl)) (fun _ _ _ h => h) (Or.inl ⟨by rfl, ?_⟩) ?_ ?_
                rotate_left
                ·intro w'
                 go_simp
                 with_reducible rfl
                rotate_left
                ·simp only [Act.put, List.setIfInBounds_toArray, List.set_cons_zero, List.set_cons_succ, i64_w, i32_w]
                 rfl
                refine pure_ (i := 8) (N := some 122) (v := ?_) (a' := ?_) #[true, false, false, false, true, false, false, true, true, false, false, false, false, false] rfl rfl (any_of HT_.out (by kernel_rfl)) (fun _ _ _ h => h) (Or.inl ⟨by rfl, ?_⟩) ?_ ?_
                rotate_left
                ·intro w'
                 go_simp
                 with_reducible rfl
                rotate_left
                ·simp only [Act.put, List.setIfInBounds_toArray, List.set_cons_zero, List.set_cons_succ, i64_w, i32_w]
                 rfl
                refine pure_ (i := 9) (N := some 123) (v := ?_) (a' := ?_) #[true, false, false, false, true, false, false, true, true, true, false, false, false, false] rfl rfl (any_of HT_.out (by kernel_rfl)) (fun _ _ _ h => h) (Or.inl ⟨by rfl, ?_⟩) ?_ ?_
                rotate_left
                ·intro w'
                 go_simp
                 with_reducible rfl
                rotate_left
                ·simp only [Act.put, List.setIfInBounds_toArray, List.set_cons_zero, List.set_cons_succ, i64_w, i32_w]
                 rfl
                refine take_ (i := 1) (N := some 115) (v := ?_) (a' := ?_) #[true, true, false, false, true, false, false, true, true, true, false, false, false, false] rfl rfl (take_ofW HT_.out HW_.out (by kernel_rfl)) (fun _ _ _ h => h) (Or.inl ⟨by rfl, ?_⟩) hHeld ?_ ?_
                rotate_left
                ·rintro w' ⟨s0, s1, s2, s3, s4⟩
                 go_simp
                 with_reducible rfl
                rotate_left
                ·simp only [Act.put, List.setIfInBounds_toArray, List.set_cons_zero, List.set_cons_succ, i64_w, i32_w]
                 rfl
                refine take_ (i := 2) (N := some 116) (v := ?_) (a' := ?_) #[true, true, true, false, true, false, false, true, true, true, false, false, false, false] rfl rfl (take_ofW HT_.out HW_.out (by kernel_rfl)) (fun _ _ _ h => h) (Or.inl ⟨by rfl, ?_⟩) hHeld ?_ ?_
                rotate_left
                ·rintro w' ⟨s0, s1, s2, s3, s4⟩
                 go_simp
                 with_reducible rfl
                rotate_left
                ·simp only [Act.put, List.setIfInBounds_toArray, List.set_cons_zero, List.set_cons_succ, i64_w, i32_w]
                 rfl
                refine take_ (i := 5) (N := some 119) (v := ?_) (a' := ?_) #[true, true, true, false, true, true, false, true, true, true, false, false, false, false] rfl rfl (take_ofW HT_.out HW_.out (by kernel_rfl)) (fun _ _ _ h => h) (Or.inl ⟨by rfl, ?_⟩) hHeld ?_ ?_
                rotate_left
                ·rintro w' ⟨s0, s1, s2, s3, s4⟩
                 go_simp
                 with_reducible rfl
                rotate_left
                ·simp only [Act.put, List.setIfInBounds_toArray, List.set_cons_zero, List.set_cons_succ, i64_w, i32_w]
                 rfl
                refine one_ (i := 3) (N := some 117) #[true, true, true, true, true, true, false, true, true, true, false, false, false, false] rfl rfl (one_of HT_.out (by kernel_rfl)) (by decide) (fun K hK => ?_)
                refine goes_ Try.func46 (by kernel_rfl) rfl #[.agg #[.int .i64 a2_1, .int .i64 a2_2]] (by rfl) rfl rfl (by (try simp only [List.map_toArray, List.map_cons, List.map_nil]); first | done | rfl | (simp only [List.length_drop, List.length_take]; rfl)) ?_
                with_reducible refine (score_weights_sum.calls a2_1 a2_2 t353 _ A93.out).mono ?_
                rintro e w95 ⟨rfl, hb⟩
                refine ⟨_, rfl, ?_⟩
                have n0_ := Aside0.mk (blk_below (g := gb334) (o := .cells #[.int .i64 a2_0, .int .i64 a2_1, .int .i64 a2_2] 65 (0, 0)) (by (with_reducible repeat (first | refine blk_drewN ?_ _ | refine blk_drew ?_ | refine blk_alloc ?_ _)); exact BK334.out) hb)
                have n1_ := Aside0.mk (blk_below (g := gb335) (o := .cells #[.int .i64 x336000_2, .int .i64 x336001_2, .int .i64 x336002_2] 50 (0, 0)) (by (with_reducible repeat (first | refine blk_drewN ?_ _ | refine blk_drew ?_ | refine blk_alloc ?_ _)); exact BK335.out) hb)
                have n2_ := Aside0.mk (blk_below (g := gb336) (o := .cells #[.int .i64 a2_1, .int .i64 a2_2] 88 (0, 0)) (by (with_reducible repeat (first | refine blk_drewN ?_ _ | refine blk_drew ?_ | refine blk_alloc ?_ _)); exact BK336.out) hb)
                have n3_ := Aside0.mk (blk_below (g := gb350) (o := .cells #[.int .i64 (wrap64 (t346 * (wrap64 (x16_65 - x15_65)))), .int .i64 (wrap64 (t347 * a3)), .int .i64 (wrap64 (a3 * (wrap64 ((wrap64 (2 * t348)) + (wrap64 (t349 * (ji76)))))))] 50 (0, 0)) (by (with_reducible repeat (first | refine blk_drewN ?_ _ | refine blk_drew ?_ | refine blk_alloc ?_ _)); exact BK350.out) hb)
                have n4_ := Aside0.mk (below_step (by repeat (first | (with_reducible first | exact HB.out | apply below_alloc | apply pw_below_drewN | apply below_drew1 | refine below_set ?_ GE334.out | refine below_set ?_ GE335.out | refine below_set ?_ GE336.out | refine below_set ?_ GE350.out) | exact HB.out)) hb)
                clear BK334
                clear BK335
                clear BK336
                clear BK350
                clear HB
                have BK334 := n0_
                have BK335 := n1_
                have BK336 := n2_
                have BK350 := n3_
                have HB := n4_
                clear n0_ n1_ n2_ n3_ n4_
                (try clear hb)
                (try clear hb2)
                (try clear hk)
                (try clear hi)
                refine hK.out _ _ ⟨(blk_cell BK350.out 0).trans rfl, (blk_cell BK350.out 1).trans rfl, (blk_cell BK350.out 2).trans rfl, (blk_cell BK336.out 0).trans rfl, (blk_cell BK336.out 1).trans rfl⟩ (fun hHeld => ?_)
                clear hK K
                refine norm_ (a' := ?_) ?_ ?_
                rotate_left
                ·show Act.put _ (some 117) _ = _
                 simp only [Act.put, List.setIfInBounds_toArray, List.set_cons_zero, List.set_cons_succ, i64_w, i32_w]
                 rfl
                refine pure_ (i := 6) (N := some 120) (v := ?_) (a' := ?_) #[true, true, true, true, true, true, true, true, true, true, false, false, false, false] rfl rfl (any_of HT_.out (by kernel_rfl)) (fun _ _ _ h => h) (Or.inl ⟨by rfl, ?_⟩) ?_ ?_
                rotate_left
                ·intro w'
                 go_simp
                 with_reducible rfl
                rotate_left
                ·simp only [Act.put, List.setIfInBounds_toArray, List.set_cons_zero, List.set_cons_succ, i64_w, i32_w]
                 rfl
                refine pure_ (i := 10) (N := some 124) (v := ?_) (a' := ?_) #[true, true, true, true, true, true, true, true, true, true, true, false, false, false] rfl rfl (any_of HT_.out (by kernel_rfl)) (fun _ _ _ h => h) (Or.inl ⟨by rfl, ?_⟩) ?_ ?_
                rotate_left
                ·intro w'
                 go_simp
                 with_reducible rfl
                rotate_left
                ·simp only [Act.put, List.setIfInBounds_toArray, List.set_cons_zero, List.set_cons_succ, i64_w, i32_w]
                 rfl
                refine pure_ (i := 11) (N := some 125) (v := ?_) (a' := ?_) #[true, true, true, true, true, true, true, true, true, true, true, true, false, false] rfl rfl (any_of HT_.out (by kernel_rfl)) (fun _ _ _ h => h) (Or.inl ⟨by rfl, ?_⟩) ?_ ?_
                rotate_left
                ·intro w'
                 go_simp
                 with_reducible rfl
                rotate_left
                ·simp only [Act.put, List.setIfInBounds_toArray, List.set_cons_zero, List.set_cons_succ, i64_w, i32_w]
                 rfl
                refine pure_ (i := 12) (N := some 126) (v := ?_) (a' := ?_) #[true, true, true, true, true, true, true, true, true, true, true, true, true, false] rfl rfl (any_of HT_.out (by kernel_rfl)) (fun _ _ _ h => h) (Or.inl ⟨by rfl, ?_⟩) ?_ ?_
                rotate_left
                ·intro w'
                 go_simp
                 with_reducible rfl
                rotate_left
                ·simp only [Act.put, List.setIfInBounds_toArray, List.set_cons_zero, List.set_cons_succ, i64_w, i32_w]
                 rfl
                refine last_ (i := 13) (N := none) #[true, true, true, true, true, true, true, true, true, true, true, true, true, true] rfl rfl (one_of HT_.out (by kernel_rfl)) (by decide) (fun K hK => ?_)
                have hs96 : w95.cell? ⟨gb350, 0, none⟩ = some (.int .i64 (wrap64 (t346 * (wrap64 (x16_65 - x15_65))))) := (blk_cell BK350.out 0).trans rfl
                have hfs96 := blk_frozen BK350.out 0
                have hns96_0 := NB334_350.out
                have hns96_1 := NB335_350.out
                have hns96_2 := NB336_350.out
                have hms96_0 := NB350_334.out
                have hms96_1 := NB350_335.out
                have hms96_2 := NB350_336.out
                refine skip_ (w1 := ?_) (by rfl) rfl ?_ ?_
                rotate_left
                ·go_simp
                 rfl
                refine hK.out _ _ ?_
                clear hK K
                refine done_ (done_of HT_.out (by kernel_rfl)) ?_
                have hnb97 := NB350_334.out
                have hnc97 := NB334_350.out
                have hnb98 := NB350_335.out
                have hnc98 := NB335_350.out
                have hnb99 := NB350_336.out
                have hnc99 := NB336_350.out
                have hcz100_0 : w95.cell? ⟨gb350, 0, none⟩ = some (.int .i64 (wrap64 (t346 * (wrap64 (x16_65 - x15_65))))) := (blk_cell BK350.out 0).trans rfl
                have hcz100_1 : w95.cell? ⟨gb350, 1, none⟩ = some (.int .i64 (wrap64 (t347 * a3))) := (blk_cell BK350.out 1).trans rfl
                have hcz100_2 : w95.cell? ⟨gb350, 2, none⟩ = some (.int .i64 (wrap64 (a3 * (wrap64 ((wrap64 (2 * t348)) + (wrap64 (t349 * (ji76)))))))) := (blk_cell BK350.out 2).trans rfl
                have hfz100_0 := blk_frozen BK350.out 0
                have hfz100_1 := blk_frozen BK350.out 1
                have hfz100_2 := blk_frozen BK350.out 2
                have hnb101 := NB335_334.out
                have hnc101 := NB334_335.out
                have hnb102 := NB335_336.out
                have hnc102 := NB336_335.out
                have hcz103_0 : w95.cell? ⟨gb335, 0, none⟩ = some (.int .i64 x336000_2) := (blk_cell BK335.out 0).trans rfl
                have hcz103_1 : w95.cell? ⟨gb335, 1, none⟩ = some (.int .i64 x336001_2) := (blk_cell BK335.out 1).trans rfl
                have hcz103_2 : w95.cell? ⟨gb335, 2, none⟩ = some (.int .i64 x336002_2) := (blk_cell BK335.out 2).trans rfl
                have hfz103_0 := blk_frozen BK335.out 0
                have hfz103_1 := blk_frozen BK335.out 1
                have hfz103_2 := blk_frozen BK335.out 2
                try go_wp2
                refine bodyPost_ret (results_ct rfl _ _ gb335 50 #[.int .i64 (wrap64 ((wrap64 (t346 * (wrap64 (x16_65 - x15_65)))) - (wrap64 ((wrap64 (t353 * a2_2)) * (wrap64 (x18_76 - x15_65)))))), .int .i64 (wrap64 (t347 * a3)), .int .i64 (wrap64 (a3 * (wrap64 ((wrap64 (2 * t348)) + (wrap64 (t349 * (ji76)))))))] (0, 0) _ rfl (by (with_reducible repeat (first | refine blk_drewN ?_ _ | refine blk_drew ?_ | refine blk_alloc ?_ _)); refine blk_put (cs := #[.int .i64 (wrap64 ((wrap64 (t346 * (wrap64 (x16_65 - x15_65)))) - (wrap64 ((wrap64 (t353 * a2_2)) * (wrap64 (x18_76 - x15_65)))))), .int .i64 (wrap64 (t347 * a3)), .int .i64 x336002_2]) ?_ 2 _ rfl; (with_reducible repeat (first | refine blk_drewN ?_ _ | refine blk_drew ?_ | refine blk_alloc ?_ _)); refine blk_put (cs := #[.int .i64 (wrap64 ((wrap64 (t346 * (wrap64 (x16_65 - x15_65)))) - (wrap64 ((wrap64 (t353 * a2_2)) * (wrap64 (x18_76 - x15_65)))))), .int .i64 x336001_2, .int .i64 x336002_2]) ?_ 1 _ rfl; (with_reducible repeat (first | refine blk_drewN ?_ _ | refine blk_drew ?_ | refine blk_alloc ?_ _)); refine blk_put (cs := #[.int .i64 x336000_2, .int .i64 x336001_2, .int .i64 x336002_2]) ?_ 0 _ rfl; (with_reducible repeat (first | refine blk_drewN ?_ _ | refine blk_drew ?_ | refine blk_alloc ?_ _)); refine blk_far ?_ NB335_350.out _; (with_reducible repeat (first | refine blk_drewN ?_ _ | refine blk_drew ?_ | refine blk_alloc ?_ _)); exact BK335.out) Try.underlying50 rfl (by kernel_rfl)) rfl ?_
                exact ⟨by first | rfl | (simp [errW_none, errW_some] <;> rfl) | (simp only [← hji36, ← hji76]; first | rfl | (simp [errW_none, errW_some] <;> rfl)) | (simp [*, errW_none, errW_some] <;> rfl), by repeat (first | (with_reducible first | exact HB.out | apply below_alloc | apply pw_below_drewN | apply below_drew1 | refine below_set ?_ GE334.out | refine below_set ?_ GE335.out | refine below_set ?_ GE336.out | refine below_set ?_ GE350.out) | exact HB.out)⟩
               ·rw [if_neg c92] at H
                have c92b0 : (((rd_T70 l0 a1).f0.f4) == 1) = false := beq_eq_false_iff_ne.mpr c92
                have c92b1 : (((rd_T70 l0 a1).f0.f4) != 1) = true := bne_iff_ne.mpr c92
                by_cases c104 : ((rd_T70 l0 a1).f0.f4) = 2
                ·rw [if_pos c104] at H
                 have c104b0 : (((rd_T70 l0 a1).f0.f4) == 2) = true := beq_iff_eq.mpr c104
                 have c104b1 : (((rd_T70 l0 a1).f0.f4) != 2) = false := bne_eq_false_iff_eq.mpr c104
                 clear c104
                 replace H := Option.bind_eq_some_iff.mp H
                 obtain ⟨t354, A1050, H⟩ := H
                 replace H : (some (wrap64 ((wrap64 (t346 * (wrap64 (x16_65 - x15_65)))) + (wrap64 ((wrap64 (t354 * a2_1)) * (wrap64 (x18_76 - x16_65))))), (wrap64 (t347 * a3)), (wrap64 (a3 * (wrap64 ((wrap64 (2 * t348)) + (wrap64 (t349 * (ji76))))))), true)) = some (r1, r2, r3, r4) := H
                 have A105 := Aside0.mk A1050
                 clear A1050
                 simp only [Option.some.injEq, Prod.mk.injEq] at H
                 obtain ⟨rfl, rfl, rfl, rfl⟩ := H
                 have p352 : 0 ≤ (a1 : Int) := of_decide_eq_true (by first | (with_reducible assumption) | assumption)
                 have q352 : a1 < (l0.length : Int) := of_decide_eq_true (by first | (with_reducible assumption) | assumption)
                 obtain ⟨ad352, e352, hx352_0, hx352_1, hx352_2, hx352_3, hx352_4, hx352_5, hx352_6, hx352_7, hx352_8, hx352_9⟩ := at_T70 HR0.out a1 p352 q352
                 cases e352
                 replace hx352_0 := (HB.out.cell (World.block_lt_of_cell? w _ hx352_0)).trans hx352_0
                 replace hx352_1 := (HB.out.cell (World.block_lt_of_cell? w _ hx352_1)).trans hx352_1
                 replace hx352_2 := (HB.out.cell (World.block_lt_of_cell? w _ hx352_2)).trans hx352_2
                 replace hx352_3 := (HB.out.cell (World.block_lt_of_cell? w _ hx352_3)).trans hx352_3
                 replace hx352_4 := (HB.out.cell (World.block_lt_of_cell? w _ hx352_4)).trans hx352_4
                 replace hx352_5 := (HB.out.cell (World.block_lt_of_cell? w _ hx352_5)).trans hx352_5
                 replace hx352_6 := (HB.out.cell (World.block_lt_of_cell? w _ hx352_6)).trans hx352_6
                 replace hx352_7 := (HB.out.cell (World.block_lt_of_cell? w _ hx352_7)).trans hx352_7
                 replace hx352_8 := (HB.out.cell (World.block_lt_of_cell? w _ hx352_8)).trans hx352_8
                 replace hx352_9 := (HB.out.cell (World.block_lt_of_cell? w _ hx352_9)).trans hx352_9
                 replace p352 := eq_true p352
                 replace q352 := eq_true q352
                 try go_wp2
                 have n0_ := Aside0.mk (blk_drew BK334.out)
                 have n1_ := Aside0.mk (blk_drew BK335.out)
                 have n2_ := Aside0.mk (blk_drew BK336.out)
                 have n3_ := Aside0.mk (blk_drew BK350.out)
                 have n4_ := Aside0.mk (below_drew1 HB.out)
                 clear BK334
                 clear BK335
                 clear BK336
                 clear BK350
                 clear HB
                 have BK334 := n0_
                 have BK335 := n1_
                 have BK336 := n2_
                 have BK350 := n3_
                 have HB := n4_
                 clear n0_ n1_ n2_ n3_ n4_
                 refine start_ (n := 14) (S := fun w' => w'.cell? ⟨gb350, 0, none⟩ = some (.int .i64 (wrap64 (t346 * (wrap64 (x16_65 - x15_65))))) ∧ w'.cell? ⟨gb350, 1, none⟩ = some (.int .i64 (wrap64 (t347 * a3))) ∧ w'.cell? ⟨gb350, 2, none⟩ = some (.int .i64 (wrap64 (a3 * (wrap64 ((wrap64 (2 * t348)) + (wrap64 (t349 * (ji76)))))))) ∧ w'.cell? ⟨gb336, 0, none⟩ = some (.int .i64 a2_1) ∧ w'.cell? ⟨gb336, 1, none⟩ = some (.int .i64 a2_2)) (ds := [13]) #[false, false, false, false, false, false, false, false, false, false, false, false, false, false] (by kernel_rfl) rfl rfl ⟨(blk_cell BK350.out 0).trans rfl, (blk_cell BK350.out 1).trans rfl, (blk_cell BK350.out 2).trans rfl, (blk_cell BK336.out 0).trans rfl, (blk_cell BK336.out 1).trans rfl⟩ (fun hHeld => ?_); refine with_tabW score_Of.tab20 score_Of.bits20 (fun HT_ HW_ => ?_)
                 generalize wc.drew = w106 at BK334 BK335 BK336 BK350 HB hHeld ⊢
                 refine pure_ (i := 0) (N := some 129) (v := ?_) (a' := ?_) #[true, false, false, false, false, false, false, false, false, false, false, false, false, false] rfl rfl (any_of HT_.out (by kernel_rfl)) (fun _ _ _ h => h) (Or.inl ⟨by rfl, ?_⟩) ?_ ?_
                 rotate_left
                 ·intro w'
                  go_simp
                  with_reducible rfl
                 rotate_left
                 ·simp only [Act.put, List.setIfInBounds_toArray, List.set_cons_zero, List.set_cons_succ, i64_w, i32_w]
                  rfl
                 refine pure_ (i := 4) (N := some 133) (v := ?_) (a' := ?_) #[true, false, false, false, true, false, false, false, false, false, false, false, false, false] rfl rfl (any_of HT_.out (by kernel_rfl)) (fun _ _ _ h => h) (Or.inl ⟨by rfl, ?_⟩) ?_ ?_
                 rotate_left
                 ·intro w'
                  go_simp
                  with_reducible rfl
                 rotate_left
                 ·simp only [Act.put, List.setIfInBounds_toArray, List.set_cons_zero, List.set_cons_succ, i64_w, i32_w]
                  rfl
                 refine pure_ (i := 7) (N := some 136) (v := ?_) (a' := ?_) #[true, false, false, false, true, false, false, true, false, false, false, false, false, false] rfl rfl (any_of HT_.out (by kernel_rfl)) (fun _ _ _ h => h) (Or.inl ⟨by rfl, ?_⟩) ?_ ?_
                 rotate_left
                 ·intro w'
                  go_simp
                  with_reducible rfl
                 rotate_left
                 ·simp only [Act.put, List.setIfInBounds_toArray, List.set_cons_zero, List.set_cons_succ, i64_w, i32_w]
                  rfl
                 refine pure_ (i := 8) (N := some 137) (v := ?_) (a' := ?_) #[true, false, false, false, true, false, false, true, true, false, false, false, false, false] rfl rfl (any_of HT_.out (by kernel_rfl)) (fun _ _ _ h => h) (Or.inl ⟨by rfl, ?_⟩) ?_ ?_
                 rotate_left
                 ·intro w'
                  go_simp
                  with_reducible rfl
                 rotate_left
                 ·simp only [Act.put, List.setIfInBounds_toArray, List.set_cons_zero, List.set_cons_succ, i64_w, i32_w]
                  rfl
                 refine pure_ (i := 9) (N := some 138) (v := ?_) (a' := ?_) #[true, false, false, false, true, false, false, true, true, true, false, false, false, false] rfl rfl (any_of HT_.out (by kernel_rfl)) (fun _ _ _ h => h) (Or.inl ⟨by rfl, ?_⟩) ?_ ?_
                 rotate_left
                 ·intro w'
                  go_simp
                  with_reducible rfl
                 rotate_left
                 ·simp only [Act.put, List.setIfInBounds_toArray, List.set_cons_zero, List.set_cons_succ, i64_w, i32_w]
                  rfl
                 refine take_ (i := 1) (N := some 130) (v := ?_) (a' := ?_) #[true, true, false, false, true, false, false, true, true, true, false, false, false, false] rfl rfl (take_ofW HT_.out HW_.out (by kernel_rfl)) (fun _ _ _ h => h) (Or.inl ⟨by rfl, ?_⟩) hHeld ?_ ?_
                 rotate_left
                 ·rintro w' ⟨s0, s1, s2, s3, s4⟩
                  go_simp
                  with_reducible rfl
                 rotate_left
                 ·simp only [Act.put, List.setIfInBounds_toArray, List.set_cons_zero, List.set_cons_succ, i64_w, i32_w]
                  rfl
                 refine take_ (i := 2) (N := some 131) (v := ?_) (a' := ?_) #[true, true, true, false, true, false, false, true, true, true, false, false, false, false] rfl rfl (take_ofW HT_.out HW_.out (by kernel_rfl)) (fun _ _ _ h => h) (Or.inl ⟨by rfl, ?_⟩) hHeld ?_ ?_
                 rotate_left
                 ·rintro w' ⟨s0, s1, s2, s3, s4⟩
                  go_simp
                  with_reducible rfl
                 rotate_left
                 ·simp only [Act.put, List.setIfInBounds_toArray, List.set_cons_zero, List.set_cons_succ, i64_w, i32_w]
                  rfl
                 refine take_ (i := 5) (N := some 134) (v := ?_) (a' := ?_) #[true, true, true, false, true, true, false, true, true, true, false, false, false, false] rfl rfl (take_ofW HT_.out HW_.out (by kernel_rfl)) (fun _ _ _ h => h) (Or.inl ⟨by rfl, ?_⟩) hHeld ?_ ?_
                 rotate_left
                 ·rintro w' ⟨s0, s1, s2, s3, s4⟩
                  go_simp
                  with_reducible rfl
                 rotate_left
                 ·simp only [Act.put, List.setIfInBounds_toArray, List.set_cons_zero, List.set_cons_succ, i64_w, i32_w]
                  rfl
                 refine one_ (i := 3) (N := some 132) #[true, true, true, true, true, true, false, true, true, true, false, false, false, false] rfl rfl (one_of HT_.out (by kernel_rfl)) (by decide) (fun K hK => ?_)
                 refine goes_ Try.func46 (by kernel_rfl) rfl #[.agg #[.int .i64 a2_1, .int .i64 a2_2]] (by rfl) rfl rfl (by (try simp only [List.map_toArray, List.map_cons, List.map_nil]); first | done | rfl | (simp only [List.length_drop, List.length_take]; rfl)) ?_
                 with_reducible refine (score_weights_sum.calls a2_1 a2_2 t354 _ A105.out).mono ?_
                 rintro e w107 ⟨rfl, hb⟩
                 refine ⟨_, rfl, ?_⟩
                 have n0_ := Aside0.mk (blk_below (g := gb334) (o := .cells #[.int .i64 a2_0, .int .i64 a2_1, .int .i64 a2_2] 65 (0, 0)) (by (with_reducible repeat (first | refine blk_drewN ?_ _ | refine blk_drew ?_ | refine blk_alloc ?_ _)); exact BK334.out) hb)
                 have n1_ := Aside0.mk (blk_below (g := gb335) (o := .cells #[.int .i64 x336000_2, .int .i64 x336001_2, .int .i64 x336002_2] 50 (0, 0)) (by (with_reducible repeat (first | refine blk_drewN ?_ _ | refine blk_drew ?_ | refine blk_alloc ?_ _)); exact BK335.out) hb)
                 have n2_ := Aside0.mk (blk_below (g := gb336) (o := .cells #[.int .i64 a2_1, .int .i64 a2_2] 88 (0, 0)) (by (with_reducible repeat (first | refine blk_drewN ?_ _ | refine blk_drew ?_ | refine blk_alloc ?_ _)); exact BK336.out) hb)
                 have n3_ := Aside0.mk (blk_below (g := gb350) (o := .cells #[.int .i64 (wrap64 (t346 * (wrap64 (x16_65 - x15_65)))), .int .i64 (wrap64 (t347 * a3)), .int .i64 (wrap64 (a3 * (wrap64 ((wrap64 (2 * t348)) + (wrap64 (t349 * (ji76)))))))] 50 (0, 0)) (by (with_reducible repeat (first | refine blk_drewN ?_ _ | refine blk_drew ?_ | refine blk_alloc ?_ _)); exact BK350.out) hb)
                 have n4_ := Aside0.mk (below_step (by repeat (first | (with_reducible first | exact HB.out | apply below_alloc | apply pw_below_drewN | apply below_drew1 | refine below_set ?_ GE334.out | refine below_set ?_ GE335.out | refine below_set ?_ GE336.out | refine below_set ?_ GE350.out) | exact HB.out)) hb)
                 clear BK334
                 clear BK335
                 clear BK336
                 clear BK350
                 clear HB
                 have BK334 := n0_
                 have BK335 := n1_
                 have BK336 := n2_
                 have BK350 := n3_
                 have HB := n4_
                 clear n0_ n1_ n2_ n3_ n4_
                 (try clear hb)
                 (try clear hb2)
                 (try clear hk)
                 (try clear hi)
                 refine hK.out _ _ ⟨(blk_cell BK350.out 0).trans rfl, (blk_cell BK350.out 1).trans rfl, (blk_cell BK350.out 2).trans rfl, (blk_cell BK336.out 0).trans rfl, (blk_cell BK336.out 1).trans rfl⟩ (fun hHeld => ?_)
                 clear hK K
                 refine norm_ (a' := ?_) ?_ ?_
                 rotate_left
                 ·show Act.put _ (some 132) _ = _
                  simp only [Act.put, List.setIfInBounds_toArray, List.set_cons_zero, List.set_cons_succ, i64_w, i32_w]
                  rfl
                 refine pure_ (i := 6) (N := some 135) (v := ?_) (a' := ?_) #[true, true, true, true, true, true, true, true, true, true, false, false, false, false] rfl rfl (any_of HT_.out (by kernel_rfl)) (fun _ _ _ h => h) (Or.inl ⟨by rfl, ?_⟩) ?_ ?_
                 rotate_left
                 ·intro w'
                  go_simp
                  with_reducible rfl
                 rotate_left
                 ·simp only [Act.put, List.setIfInBounds_toArray, List.set_cons_zero, List.set_cons_succ, i64_w, i32_w]
                  rfl
                 refine pure_ (i := 10) (N := some 139) (v := ?_) (a' := ?_) #[true, true, true, true, true, true, true, true, true, true, true, false, false, false] rfl rfl (any_of HT_.out (by kernel_rfl)) (fun _ _ _ h => h) (Or.inl ⟨by rfl, ?_⟩) ?_ ?_
                 rotate_left
                 ·intro w'
                  go_simp
                  with_reducible rfl
                 rotate_left
                 ·simp only [Act.put, List.setIfInBounds_toArray, List.set_cons_zero, List.set_cons_succ, i64_w, i32_w]
                  rfl
                 refine pure_ (i := 11) (N := some 140) (v := ?_) (a' := ?_) #[true, true, true, true, true, true, true, true, true, true, true, true, false, false] rfl rfl (any_of HT_.out (by kernel_rfl)) (fun _ _ _ h => h) (Or.inl ⟨by rfl, ?_⟩) ?_ ?_
                 rotate_left
                 ·intro w'
                  go_simp
                  with_reducible rfl
                 rotate_left
                 ·simp only [Act.put, List.setIfInBounds_toArray, List.set_cons_zero, List.set_cons_succ, i64_w, i32_w]
                  rfl
                 refine pure_ (i := 12) (N := some 141) (v := ?_) (a' := ?_) #[true, true, true, true, true, true, true, true, true, true, true, true, true, false] rfl rfl (any_of HT_.out (by kernel_rfl)) (fun _ _ _ h => h) (Or.inl ⟨by rfl, ?_⟩) ?_ ?_
                 rotate_left
                 ·intro w'
                  go_simp
                  with_reducible rfl
                 rotate_left
                 ·simp only [Act.put, List.setIfInBounds_toArray, List.set_cons_zero, List.set_cons_succ, i64_w, i32_w]
                  rfl
                 refine last_ (i := 13) (N := none) #[true, true, true, true, true, true, true, true, true, true, true, true, true, true] rfl rfl (one_of HT_.out (by kernel_rfl)) (by decide) (fun K hK => ?_)
                 have hs108 : w107.cell? ⟨gb350, 0, none⟩ = some (.int .i64 (wrap64 (t346 * (wrap64 (x16_65 - x15_65))))) := (blk_cell BK350.out 0).trans rfl
                 have hfs108 := blk_frozen BK350.out 0
                 have hns108_0 := NB334_350.out
                 have hns108_1 := NB335_350.out
                 have hns108_2 := NB336_350.out
                 have hms108_0 := NB350_334.out
                 have hms108_1 := NB350_335.out
                 have hms108_2 := NB350_336.out
                 refine skip_ (w1 := ?_) (by rfl) rfl ?_ ?_
                 rotate_left
                 ·go_simp
                  rfl
                 refine hK.out _ _ ?_
                 clear hK K
                 refine done_ (done_of HT_.out (by kernel_rfl)) ?_
                 have hnb109 := NB350_334.out
                 have hnc109 := NB334_350.out
                 have hnb110 := NB350_335.out
                 have hnc110 := NB335_350.out
                 have hnb111 := NB350_336.out
                 have hnc111 := NB336_350.out
                 have hcz112_0 : w107.cell? ⟨gb350, 0, none⟩ = some (.int .i64 (wrap64 (t346 * (wrap64 (x16_65 - x15_65))))) := (blk_cell BK350.out 0).trans rfl
                 have hcz112_1 : w107.cell? ⟨gb350, 1, none⟩ = some (.int .i64 (wrap64 (t347 * a3))) := (blk_cell BK350.out 1).trans rfl
                 have hcz112_2 : w107.cell? ⟨gb350, 2, none⟩ = some (.int .i64 (wrap64 (a3 * (wrap64 ((wrap64 (2 * t348)) + (wrap64 (t349 * (ji76)))))))) := (blk_cell BK350.out 2).trans rfl
                 have hfz112_0 := blk_frozen BK350.out 0
                 have hfz112_1 := blk_frozen BK350.out 1
                 have hfz112_2 := blk_frozen BK350.out 2
                 have hnb113 := NB335_334.out
                 have hnc113 := NB334_335.out
                 have hnb114 := NB335_336.out
                 have hnc114 := NB336_335.out
                 have hcz115_0 : w107.cell? ⟨gb335, 0, none⟩ = some (.int .i64 x336000_2) := (blk_cell BK335.out 0).trans rfl
                 have hcz115_1 : w107.cell? ⟨gb335, 1, none⟩ = some (.int .i64 x336001_2) := (blk_cell BK335.out 1).trans rfl
                 have hcz115_2 : w107.cell? ⟨gb335, 2, none⟩ = some (.int .i64 x336002_2) := (blk_cell BK335.out 2).trans rfl
                 have hfz115_0 := blk_frozen BK335.out 0
                 have hfz115_1 := blk_frozen BK335.out 1
                 have hfz115_2 := blk_frozen BK335.out 2
                 try go_wp2
                 refine bodyPost_ret (results_ct rfl _ _ gb335 50 #[.int .i64 (wrap64 ((wrap64 (t346 * (wrap64 (x16_65 - x15_65)))) + (wrap64 ((wrap64 (t354 * a2_1)) * (wrap64 (x18_76 - x16_65)))))), .int .i64 (wrap64 (t347 * a3)), .int .i64 (wrap64 (a3 * (wrap64 ((wrap64 (2 * t348)) + (wrap64 (t349 * (ji76)))))))] (0, 0) _ rfl (by (with_reducible repeat (first | refine blk_drewN ?_ _ | refine blk_drew ?_ | refine blk_alloc ?_ _)); refine blk_put (cs := #[.int .i64 (wrap64 ((wrap64 (t346 * (wrap64 (x16_65 - x15_65)))) + (wrap64 ((wrap64 (t354 * a2_1)) * (wrap64 (x18_76 - x16_65)))))), .int .i64 (wrap64 (t347 * a3)), .int .i64 x336002_2]) ?_ 2 _ rfl; (with_reducible repeat (first | refine blk_drewN ?_ _ | refine blk_drew ?_ | refine blk_alloc ?_ _)); refine blk_put (cs := #[.int .i64 (wrap64 ((wrap64 (t346 * (wrap64 (x16_65 - x15_65)))) + (wrap64 ((wrap64 (t354 * a2_1)) * (wrap64 (x18_76 - x16_65)))))), .int .i64 x336001_2, .int .i64 x336002_2]) ?_ 1 _ rfl; (with_reducible repeat (first | refine blk_drewN ?_ _ | refine blk_drew ?_ | refine blk_alloc ?_ _)); refine blk_put (cs := #[.int .i64 x336000_2, .int .i64 x336001_2, .int .i64 x336002_2]) ?_ 0 _ rfl; (with_reducible repeat (first | refine blk_drewN ?_ _ | refine blk_drew ?_ | refine blk_alloc ?_ _)); refine blk_far ?_ NB335_350.out _; (with_reducible repeat (first | refine blk_drewN ?_ _ | refine blk_drew ?_ | refine blk_alloc ?_ _)); exact BK335.out) Try.underlying50 rfl (by kernel_rfl)) rfl ?_
                 exact ⟨by first | rfl | (simp [errW_none, errW_some] <;> rfl) | (simp only [← hji36, ← hji76]; first | rfl | (simp [errW_none, errW_some] <;> rfl)) | (simp [*, errW_none, errW_some] <;> rfl), by repeat (first | (with_reducible first | exact HB.out | apply below_alloc | apply pw_below_drewN | apply below_drew1 | refine below_set ?_ GE334.out | refine below_set ?_ GE335.out | refine below_set ?_ GE336.out | refine below_set ?_ GE350.out) | exact HB.out)⟩
                ·rw [if_neg c104] at H
                 have c104b0 : (((rd_T70 l0 a1).f0.f4) == 2) = false := beq_eq_false_iff_ne.mpr c104
                 have c104b1 : (((rd_T70 l0 a1).f0.f4) != 2) = true := bne_iff_ne.mpr c104
                 simp only [Option.some.injEq, Prod.mk.injEq] at H
                 obtain ⟨rfl, rfl, rfl, rfl⟩ := H
                 have p352 : 0 ≤ (a1 : Int) := of_decide_eq_true (by first | (with_reducible assumption) | assumption)
                 have q352 : a1 < (l0.length : Int) := of_decide_eq_true (by first | (with_reducible assumption) | assumption)
                 obtain ⟨ad352, e352, hx352_0, hx352_1, hx352_2, hx352_3, hx352_4, hx352_5, hx352_6, hx352_7, hx352_8, hx352_9⟩ := at_T70 HR0.out a1 p352 q352
                 cases e352
                 replace hx352_0 := (HB.out.cell (World.block_lt_of_cell? w _ hx352_0)).trans hx352_0
                 replace hx352_1 := (HB.out.cell (World.block_lt_of_cell? w _ hx352_1)).trans hx352_1
                 replace hx352_2 := (HB.out.cell (World.block_lt_of_cell? w _ hx352_2)).trans hx352_2
                 replace hx352_3 := (HB.out.cell (World.block_lt_of_cell? w _ hx352_3)).trans hx352_3
                 replace hx352_4 := (HB.out.cell (World.block_lt_of_cell? w _ hx352_4)).trans hx352_4
                 replace hx352_5 := (HB.out.cell (World.block_lt_of_cell? w _ hx352_5)).trans hx352_5
                 replace hx352_6 := (HB.out.cell (World.block_lt_of_cell? w _ hx352_6)).trans hx352_6
                 replace hx352_7 := (HB.out.cell (World.block_lt_of_cell? w _ hx352_7)).trans hx352_7
                 replace hx352_8 := (HB.out.cell (World.block_lt_of_cell? w _ hx352_8)).trans hx352_8
                 replace hx352_9 := (HB.out.cell (World.block_lt_of_cell? w _ hx352_9)).trans hx352_9
                 replace p352 := eq_true p352
                 replace q352 := eq_true q352
                 have hnb116 := NB335_334.out
                 have hnc116 := NB334_335.out
                 have hnb117 := NB335_336.out
                 have hnc117 := NB336_335.out
                 have hnb118 := NB335_350.out
                 have hnc118 := NB350_335.out
                 have hcz119_0 : wc.cell? ⟨gb335, 0, none⟩ = some (.int .i64 x336000_2) := (blk_cell BK335.out 0).trans rfl
                 have hcz119_1 : wc.cell? ⟨gb335, 1, none⟩ = some (.int .i64 x336001_2) := (blk_cell BK335.out 1).trans rfl
                 have hcz119_2 : wc.cell? ⟨gb335, 2, none⟩ = some (.int .i64 x336002_2) := (blk_cell BK335.out 2).trans rfl
                 have hfz119_0 := blk_frozen BK335.out 0
                 have hfz119_1 := blk_frozen BK335.out 1
                 have hfz119_2 := blk_frozen BK335.out 2
                 go_wp2
                 refine bodyPost_ret (results_ct rfl _ _ gb335 50 #[.int .i64 0, .int .i64 0, .int .i64 0] (0, 0) _ rfl (by (with_reducible repeat (first | refine blk_drewN ?_ _ | refine blk_drew ?_ | refine blk_alloc ?_ _)); refine blk_put (cs := #[.int .i64 0, .int .i64 0, .int .i64 x336002_2]) ?_ 2 _ rfl; (with_reducible repeat (first | refine blk_drewN ?_ _ | refine blk_drew ?_ | refine blk_alloc ?_ _)); refine blk_put (cs := #[.int .i64 0, .int .i64 x336001_2, .int .i64 x336002_2]) ?_ 1 _ rfl; (with_reducible repeat (first | refine blk_drewN ?_ _ | refine blk_drew ?_ | refine blk_alloc ?_ _)); refine blk_put (cs := #[.int .i64 x336000_2, .int .i64 x336001_2, .int .i64 x336002_2]) ?_ 0 _ rfl; (with_reducible repeat (first | refine blk_drewN ?_ _ | refine blk_drew ?_ | refine blk_alloc ?_ _)); exact BK335.out) Try.underlying50 rfl (by kernel_rfl)) rfl ?_
                 exact ⟨by first | rfl | (simp [errW_none, errW_some] <;> rfl) | (simp only [← hji36, ← hji76]; first | rfl | (simp [errW_none, errW_some] <;> rfl)) | (simp [*, errW_none, errW_some] <;> rfl), by repeat (first | (with_reducible first | exact HB.out | apply below_alloc | apply pw_below_drewN | apply below_drew1 | refine below_set ?_ GE334.out | refine below_set ?_ GE335.out | refine below_set ?_ GE336.out | refine below_set ?_ GE350.out) | exact HB.out)⟩
              ·rw [if_neg c91] at H
               exact absurd H (by simp)
             ·rw [if_neg c90] at H
              exact absurd H (by simp)
     ·rw [if_neg c38] at H
      exact absurd H (by simp)
    ·rw [if_neg c37] at H
     exact absurd H (by simp)

end Go.Proofs.Ytdclcdaoidbgbaa.PA
