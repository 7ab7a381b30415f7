-- Written by a program of this seat's session (wip/tools/ownprint.py, over the kit's printer) out of the translation: functions and their contracts.
import Derived.Test.YtafcnpfhihnmgaaPA0
import Derived.Test.YtafcnpfhihnmgaaPA4
import Derived.Test.YtafcnpfhihnmgaaPA6
import Derived.Test.YtafcnpfhihnmgaaPA7
namespace Go.Proofs.Ytafcnpfhihnmgaa.PA
open Go.RowKit Go.Proofs.YtafcnpfhihnmgaaW.PrintWords Go.Proofs.YtafcnpfhihnmgaaW.PrintLast Go.Proofs.YtafcnpfhihnmgaaW.PrintMore
attribute [local go_sem] max2_int min2_int max_two min_two max_three min_three max_four min_four   -- for this text's walks alone
set_option linter.unusedVariables false
set_option linter.unusedSimpArgs false

/-! ### score_Of: function 25 -/
mutual
def score_Of.j0 : Nat → List (S58) → Int → Int → Bool → Bool → Int → Int → Option (Int × Int × Int × Bool)
  | 0, _, _, _, _, _, _, _ => none
  | k + 1, x0, x1, x3, x4, x44, x175000, x175001 => if x44 = true then (some (0, 0, 0, false)) else (if 0 ≤ (wrap64 (x1 + 1)) then (if (wrap64 (x1 + 1)) ≤ (x0.length : Int) then ((some (x0.take ((wrap64 (x1 + 1)) : Int).toNat : List (S58))).bind fun y176 => (score_Of.l0 k x0 x1 x3 x4 y176 (y176.length : Int) 0 x175000 x175001)) else (none)) else (none))
def score_Of.l0 : Nat → List (S58) → Int → Int → Bool → List (S58) → Int → Int → Int → Int → Option (Int × Int × Int × Bool)
  | 0, _, _, _, _, _, _, _, _, _ => none
  | k + 1, x0, x1, x3, x4, x49, x50, x51, x175000, x175001 => if x51 < x50 then (if 0 ≤ x51 then (if x51 < (x49.length : Int) then (if ((rd_T58 x49 x51).f1) < 0 then (some (0, 0, 0, false)) else (if ((rd_T58 x49 x51).f1) > x3 then (some (0, 0, 0, false)) else (score_Of.l0 k x0 x1 x3 x4 x49 x50 (wrap64 (x51 + 1)) x175000 x175001))) else (none)) else (none)) else (if x4 = true then ((score_Predict.f k x0 x1 1 x3).bind fun t182 => ((score_Predict.f k x0 x1 2 x3).bind fun t183 => (score_Of.j2 k x0 x1 x3 t182 t183 x175000 x175001))) else (score_Of.j2 k x0 x1 x3 0 0 x175000 x175001))
def score_Of.j2 : Nat → List (S58) → Int → Int → Int → Int → Int → Int → Option (Int × Int × Int × Bool)
  | 0, _, _, _, _, _, _, _ => none
  | k + 1, x0, x1, x3, x15, x16, x175000, x175001 => (score_weights_product.f x175000 x175001).bind fun t184 => ((score_weights_product.f x175000 x175001).bind fun t185 => ((score_weights_product.f x175000 x175001).bind fun t186 => ((score_weights_sum.f x175000 x175001).bind fun t187 => (if 0 ≤ x1 then (if x1 < (x0.length : Int) then (score_Of.j3 k x0 x1 x15 x16 ((rd_T58 x0 x1).f1) x175000 x175001 (wrap64 (t184 * (wrap64 (x16 - x15)))) (wrap64 (t185 * x3)) (wrap64 (x3 * (wrap64 ((wrap64 (2 * t186)) + (wrap64 (t187 * (mx x175000 x175001)))))))) else (none)) else (none)))))
def score_Of.j3 : Nat → List (S58) → Int → Int → Int → Int → Int → Int → Int → Int → Int → Option (Int × Int × Int × Bool)
  | 0, _, _, _, _, _, _, _, _, _, _ => none
  | k + 1, x0, x1, x15, x16, x18, x175000, x175001, x189000, x189001, x189002 => if 0 ≤ x1 then (if x1 < (x0.length : Int) then (if ((rd_T58 x0 x1).f0.f4) = 1 then ((score_weights_sum.f x175000 x175001).bind fun t191 => (some (wrap64 (x189000 - (wrap64 ((wrap64 (t191 * x175001)) * (wrap64 (x18 - x15))))), x189001, x189002, true))) else (if ((rd_T58 x0 x1).f0.f4) = 2 then ((score_weights_sum.f x175000 x175001).bind fun t192 => (some (wrap64 (x189000 + (wrap64 ((wrap64 (t192 * x175000)) * (wrap64 (x18 - x16))))), x189001, x189002, true))) else (some (0, 0, 0, false)))) else (none)) else (none)
end
def score_Of.f (k : Nat) (l0 : List (S58)) (a1 : Int) (a2_0 : Int) (a2_1 : Int) (a2_2 : Int) (a3 : Int) (a4 : Bool) : Option (Int × Int × Int × Bool) := if a1 < 0 then (score_Of.j0 k l0 a1 a3 a4 true a2_1 a2_2) else (if a1 ≥ (l0.length : Int) then (score_Of.j0 k l0 a1 a3 a4 true a2_1 a2_2) else ((score_weights_valid.f a2_1 a2_2).bind fun t175 => (if t175 = true then (if a3 < 1 then (score_Of.j0 k l0 a1 a3 a4 true a2_1 a2_2) else (score_Of.j0 k l0 a1 a3 a4 (decide (a3 > 1048576)) a2_1 a2_2)) else (score_Of.j0 k l0 a1 a3 a4 true a2_1 a2_2))))
theorem score_Of.mono_l : ∀ k, (∀ y0 y1 y2 y3 y4 y5 y6, LeO (score_Of.j0 k y0 y1 y2 y3 y4 y5 y6) (score_Of.j0 (k + 1) y0 y1 y2 y3 y4 y5 y6)) ∧ (∀ y0 y1 y2 y3 y4 y5 y6 y7 y8, LeO (score_Of.l0 k y0 y1 y2 y3 y4 y5 y6 y7 y8) (score_Of.l0 (k + 1) y0 y1 y2 y3 y4 y5 y6 y7 y8)) ∧ (∀ y0 y1 y2 y3 y4 y5 y6, LeO (score_Of.j2 k y0 y1 y2 y3 y4 y5 y6) (score_Of.j2 (k + 1) y0 y1 y2 y3 y4 y5 y6)) ∧ (∀ y0 y1 y2 y3 y4 y5 y6 y7 y8 y9, LeO (score_Of.j3 k y0 y1 y2 y3 y4 y5 y6 y7 y8 y9) (score_Of.j3 (k + 1) y0 y1 y2 y3 y4 y5 y6 y7 y8 y9))
  | 0 => ⟨fun _ _ _ _ _ _ _ r h => by simp [score_Of.j0] at h, fun _ _ _ _ _ _ _ _ _ r h => by simp [score_Of.l0] at h, fun _ _ _ _ _ _ _ r h => by simp [score_Of.j2] at h, fun _ _ _ _ _ _ _ _ _ _ r h => by simp [score_Of.j3] at h⟩
  | k + 1 => by
    obtain ⟨ih0, ih1, ih2, ih3⟩ := score_Of.mono_l k
    refine ⟨?_, ?_, ?_, ?_⟩
    · intro y0 y1 y2 y3 y4 y5 y6
      unfold score_Of.j0
      repeat' first
      | (with_reducible exact ih0 _ _ _ _ _ _ _)
      | (with_reducible exact ih1 _ _ _ _ _ _ _ _ _)
      | (with_reducible exact ih2 _ _ _ _ _ _ _)
      | (with_reducible exact ih3 _ _ _ _ _ _ _ _ _ _)
      | (with_reducible exact score_Predict.mono _ _ _ _ _)
      | (with_reducible exact LeO.refl _)
      | (with_reducible exact LeO.none _)
      | (with_reducible refine LeO.ite ?_ ?_)
      | (with_reducible refine LeO.bind ?_ (fun _ => ?_))
      | exact ih0 _ _ _ _ _ _ _
      | exact ih1 _ _ _ _ _ _ _ _ _
      | exact ih2 _ _ _ _ _ _ _
      | exact ih3 _ _ _ _ _ _ _ _ _ _
      | exact score_Predict.mono _ _ _ _ _
      | exact LeO.none _
      | refine LeO.ite ?_ ?_
      | refine LeO.bind ?_ (fun _ => ?_)
    · intro y0 y1 y2 y3 y4 y5 y6 y7 y8
      unfold score_Of.l0
      repeat' first
      | (with_reducible exact ih0 _ _ _ _ _ _ _)
      | (with_reducible exact ih1 _ _ _ _ _ _ _ _ _)
      | (with_reducible exact ih2 _ _ _ _ _ _ _)
      | (with_reducible exact ih3 _ _ _ _ _ _ _ _ _ _)
      | (with_reducible exact score_Predict.mono _ _ _ _ _)
      | (with_reducible exact LeO.refl _)
      | (with_reducible exact LeO.none _)
      | (with_reducible refine LeO.ite ?_ ?_)
      | (with_reducible refine LeO.bind ?_ (fun _ => ?_))
      | exact ih0 _ _ _ _ _ _ _
      | exact ih1 _ _ _ _ _ _ _ _ _
      | exact ih2 _ _ _ _ _ _ _
      | exact ih3 _ _ _ _ _ _ _ _ _ _
      | exact score_Predict.mono _ _ _ _ _
      | exact LeO.none _
      | refine LeO.ite ?_ ?_
      | refine LeO.bind ?_ (fun _ => ?_)
    · intro y0 y1 y2 y3 y4 y5 y6
      unfold score_Of.j2
      repeat' first
      | (with_reducible exact ih0 _ _ _ _ _ _ _)
      | (with_reducible exact ih1 _ _ _ _ _ _ _ _ _)
      | (with_reducible exact ih2 _ _ _ _ _ _ _)
      | (with_reducible exact ih3 _ _ _ _ _ _ _ _ _ _)
      | (with_reducible exact score_Predict.mono _ _ _ _ _)
      | (with_reducible exact LeO.refl _)
      | (with_reducible exact LeO.none _)
      | (with_reducible refine LeO.ite ?_ ?_)
      | (with_reducible refine LeO.bind ?_ (fun _ => ?_))
      | exact ih0 _ _ _ _ _ _ _
      | exact ih1 _ _ _ _ _ _ _ _ _
      | exact ih2 _ _ _ _ _ _ _
      | exact ih3 _ _ _ _ _ _ _ _ _ _
      | exact score_Predict.mono _ _ _ _ _
      | exact LeO.none _
      | refine LeO.ite ?_ ?_
      | refine LeO.bind ?_ (fun _ => ?_)
    · intro y0 y1 y2 y3 y4 y5 y6 y7 y8 y9
      unfold score_Of.j3
      repeat' first
      | (with_reducible exact ih0 _ _ _ _ _ _ _)
      | (with_reducible exact ih1 _ _ _ _ _ _ _ _ _)
      | (with_reducible exact ih2 _ _ _ _ _ _ _)
      | (with_reducible exact ih3 _ _ _ _ _ _ _ _ _ _)
      | (with_reducible exact score_Predict.mono _ _ _ _ _)
      | (with_reducible exact LeO.refl _)
      | (with_reducible exact LeO.none _)
      | (with_reducible refine LeO.ite ?_ ?_)
      | (with_reducible refine LeO.bind ?_ (fun _ => ?_))
      | exact ih0 _ _ _ _ _ _ _
      | exact ih1 _ _ _ _ _ _ _ _ _
      | exact ih2 _ _ _ _ _ _ _
      | exact ih3 _ _ _ _ _ _ _ _ _ _
      | exact score_Predict.mono _ _ _ _ _
      | exact LeO.none _
      | refine LeO.ite ?_ ?_
      | refine LeO.bind ?_ (fun _ => ?_)
theorem score_Of.mono : ∀ a0 a1 a2 a3 a4 a5 a6 k, LeO (score_Of.f k a0 a1 a2 a3 a4 a5 a6) (score_Of.f (k + 1) a0 a1 a2 a3 a4 a5 a6) := by
  intro a0 a1 a2 a3 a4 a5 a6 k
  obtain ⟨ih0, ih1, ih2, ih3⟩ := score_Of.mono_l k
  unfold score_Of.f
  repeat' first
      | (with_reducible exact ih0 _ _ _ _ _ _ _)
      | (with_reducible exact ih1 _ _ _ _ _ _ _ _ _)
      | (with_reducible exact ih2 _ _ _ _ _ _ _)
      | (with_reducible exact ih3 _ _ _ _ _ _ _ _ _ _)
      | (with_reducible exact score_Predict.mono _ _ _ _ _)
      | (with_reducible exact LeO.refl _)
      | (with_reducible exact LeO.none _)
      | (with_reducible refine LeO.ite ?_ ?_)
      | (with_reducible refine LeO.bind ?_ (fun _ => ?_))
      | exact ih0 _ _ _ _ _ _ _
      | exact ih1 _ _ _ _ _ _ _ _ _
      | exact ih2 _ _ _ _ _ _ _
      | exact ih3 _ _ _ _ _ _ _ _ _ _
      | exact score_Predict.mono _ _ _ _ _
      | exact LeO.none _
      | refine LeO.ite ?_ ?_
      | refine LeO.bind ?_ (fun _ => ?_)
def score_Of.T13 : Bool × List (List Nat × List Nat) := (true, [([], []), ([0], [0]), ([], []), ([], []), ([2, 3], [2, 3]), ([1, 4], [1, 4]), ([], []), ([6, 1], [6]), ([], []), ([7, 8], [7, 8]), ([], []), ([], []), ([11, 7], [11]), ([12], [12]), ([], []), ([14, 12], [14]), ([], []), ([16], [16]), ([], []), ([18], [18]), ([17, 19], [17, 19]), ([15, 20], [15, 20]), ([13, 21], [13, 21]), ([10, 22], [10, 22]), ([5, 9, 23], [5, 9, 23]), ([], []), ([25, 24, 15, 0, 1, 2, 3, 4, 5, 6, 7, 8, 9, 10, 11, 12, 13, 14, 15, 16, 17, 18, 19, 20, 21, 22, 23, 24, 25], [24, 25])])
def score_Of.B13 : List Nat := [0, 1, 0, 0, 12, 31, 0, 67, 0, 451, 0, 0, 2243, 6339, 0, 22723, 0, 65536, 0, 262144, 983040, 2087107, 4192451, 8387779, 16777215, 0, 67108863]
theorem score_Of.tab13 : rtab .any (opsOf Try.f25 13) = score_Of.T13 := by kernel_rfl
theorem score_Of.bits13 : waitsOk score_Of.T13.2 score_Of.B13 = true := by kernel_rfl
def score_Of.T18 : Bool × List (List Nat × List Nat) := (true, [([], []), ([0], [0]), ([], []), ([2], [2]), ([], []), ([4], [4]), ([3, 5], [3, 5]), ([], []), ([], []), ([7, 8], [7, 8]), ([6, 9], [6, 9]), ([1, 10], [1, 10]), ([0, 1, 2, 3, 4, 5, 6, 7, 8, 9, 10, 11], []), ([12, 11, 3, 0, 1, 2, 3, 4, 5, 6, 7, 8, 9, 10, 11], [11, 12])])
def score_Of.B18 : List Nat := [0, 1, 0, 4, 0, 16, 60, 0, 0, 384, 1020, 2047, 4095, 8191]
theorem score_Of.tab18 : rtab .any (opsOf Try.f25 18) = score_Of.T18 := by kernel_rfl
theorem score_Of.bits18 : waitsOk score_Of.T18.2 score_Of.B18 = true := by kernel_rfl
def score_Of.T20 : Bool × List (List Nat × List Nat) := (true, [([], []), ([0], [0]), ([], []), ([2], [2]), ([], []), ([4], [4]), ([3, 5], [3, 5]), ([], []), ([], []), ([7, 8], [7, 8]), ([6, 9], [6, 9]), ([1, 10], [1, 10]), ([0, 1, 2, 3, 4, 5, 6, 7, 8, 9, 10, 11], []), ([12, 11, 3, 0, 1, 2, 3, 4, 5, 6, 7, 8, 9, 10, 11], [11, 12])])
def score_Of.B20 : List Nat := [0, 1, 0, 4, 0, 16, 60, 0, 0, 384, 1020, 2047, 4095, 8191]
theorem score_Of.tab20 : rtab .any (opsOf Try.f25 20) = score_Of.T20 := by kernel_rfl
theorem score_Of.bits20 : waitsOk score_Of.T20.2 score_Of.B20 = true := by kernel_rfl
set_option maxHeartbeats 8000000 in
set_option maxRecDepth 100000 in
theorem score_Of.calls (k : Nat) (A0 : Option Addr) (c0 : Nat) (l0 : List (S58)) (a1 : Int) (a2_0 : Int) (a2_1 : Int) (a2_2 : Int) (a3 : Int) (a4 : Bool) (r1 : Int) (r2 : Int) (r3 : Int) (r4 : Bool) (w : World) (hr0 : Kd.C k58 w A0 l0.length l0) (hc0 : l0.length ≤ c0) (h : score_Of.f k l0 a1 a2_0 a2_1 a2_2 a3 a4 = some (r1, r2, r3, r4)) :
    Calls Try.prog 25 #[.slice A0 l0.length c0, .int .i64 a1, .agg #[.int .i64 a2_0, .int .i64 a2_1, .int .i64 a2_2], .int .i64 a3, .bool a4] w fun e w' => e = .returned (.tuple #[.agg #[.int .i64 r1, .int .i64 r2, .int .i64 r3], .bool r4]) ∧ Below w.heap.size w w' := by
  have hu52 := Try.underlying52
  have hu28 := Try.underlying28
  have hu71 := Try.underlying71
  have hu58 := Try.underlying58
  have HR0 := Aside0.mk hr0
  have HC0 := Aside0.mk hc0
  clear hr0 hc0
  have HB := Aside0.mk (Below.refl w.heap.size w)
  have H : (if a1 < 0 then (score_Of.j0 k l0 a1 a3 a4 true a2_1 a2_2) else (if a1 ≥ (l0.length : Int) then (score_Of.j0 k l0 a1 a3 a4 true a2_1 a2_2) else ((score_weights_valid.f a2_1 a2_2).bind fun t175 => (if t175 = true then (if a3 < 1 then (score_Of.j0 k l0 a1 a3 a4 true a2_1 a2_2) else (score_Of.j0 k l0 a1 a3 a4 (decide (a3 > 1048576)) a2_1 a2_2)) else (score_Of.j0 k l0 a1 a3 a4 true a2_1 a2_2))))) = some (r1, r2, r3, r4) := h
  clear h
  have HC6 := Aside0.mk H
  clear H
  go_enter Try.func25, Try.ntmps25
  go_upto_region 2 with (first | ((with_reducible refine gate_dst (N := 7) rfl ?_); (try (refine gate_guard (by rfl) ?_; dsimp only)); refine box_event ?hg (N := 7) ?hd (cs := #[.int .i64 a2_0, .int .i64 a2_1, .int .i64 a2_2]) (t := 52) ?hr ?_; (case hd => rfl); (case hg => rfl); (case hr => first | (go_simp; done) | (go_simp; rfl)); intro gb172 hg w7 hbox hb; have n0_ := Aside0.mk (below_step (by repeat (first | (with_reducible first | exact HB.out | apply below_alloc | apply pw_below_drewN | apply below_drew1) | exact HB.out)) hb); have n1_ := Aside0.mk (hbox); have n2_ := Aside0.mk ((by rw [hg]; exact (below_size (by repeat (first | (with_reducible first | exact HB.out | apply below_alloc | apply pw_below_drewN | apply below_drew1) | exact HB.out))) : w.heap.size ≤ gb172)); have n3_ := Aside0.mk ((by rw [hg]; exact (below_size (by repeat (first | (with_reducible first | exact HB.out | apply below_alloc | apply pw_below_drewN | apply below_drew1) | exact HB.out))) : w.heap.size ≤ gb172)); clear HB; have HB := n0_; have BK172 := n1_; have GW172 := n2_; have GE172 := n3_; clear n0_ n1_ n2_ n3_; clear hb hbox hg) | ((with_reducible refine gate_dst (N := 10) rfl ?_); (try (refine gate_guard (by rfl) ?_; dsimp only)); refine box_event ?hg (N := 10) ?hd (cs := #[.int .i64 0, .int .i64 0, .int .i64 0]) (t := 28) ?hr ?_; (case hd => rfl); (case hg => rfl); (case hr => first | (go_simp; done) | (go_simp; rfl)); intro gb173 hg w8 hbox hb; have n0_ := Aside0.mk (blk_below (g := gb172) (o := .cells #[.int .i64 a2_0, .int .i64 a2_1, .int .i64 a2_2] 52 (0, 0)) (by (with_reducible repeat (first | refine blk_drewN ?_ _ | refine blk_drew ?_ | refine blk_alloc ?_ _)); exact BK172.out) hb); have n1_ := Aside0.mk (below_step (by repeat (first | (with_reducible first | exact HB.out | apply below_alloc | apply pw_below_drewN | apply below_drew1 | refine below_set ?_ GE172.out) | exact HB.out)) hb); have n2_ := Aside0.mk (hbox); have n3_ := Aside0.mk ((by rw [hg]; exact (below_size (by repeat (first | (with_reducible first | exact HB.out | apply below_alloc | apply pw_below_drewN | apply below_drew1 | refine below_set ?_ GE172.out) | exact HB.out))) : w.heap.size ≤ gb173)); have n4_ := Aside0.mk ((by rw [hg]; exact (below_size (by repeat (first | (with_reducible first | exact HB.out | apply below_alloc | apply pw_below_drewN | apply below_drew1 | refine below_set ?_ GE172.out) | exact HB.out))) : w.heap.size ≤ gb173)); have n5_ := Aside0.mk ((by rw [hg]; exact Nat.ne_of_lt (blk_lt (g := gb172) (o := .cells #[.int .i64 a2_0, .int .i64 a2_1, .int .i64 a2_2] 52 (0, 0)) (by (with_reducible repeat (first | refine blk_drewN ?_ _ | refine blk_drew ?_ | refine blk_alloc ?_ _)); exact BK172.out)) : gb172 ≠ gb173)); have n6_ := Aside0.mk ((by rw [hg]; exact Nat.ne_of_gt (blk_lt (g := gb172) (o := .cells #[.int .i64 a2_0, .int .i64 a2_1, .int .i64 a2_2] 52 (0, 0)) (by (with_reducible repeat (first | refine blk_drewN ?_ _ | refine blk_drew ?_ | refine blk_alloc ?_ _)); exact BK172.out)) : gb173 ≠ gb172)); clear BK172; clear HB; have BK172 := n0_; have HB := n1_; have BK173 := n2_; have GW173 := n3_; have GE173 := n4_; have NB172_173 := n5_; have NB173_172 := n6_; clear n0_ n1_ n2_ n3_ n4_ n5_ n6_; clear hb hbox hg; have hnb9 := NB172_173.out; have hnc9 := NB173_172.out; have hcz10_0 : w8.cell? ⟨gb172, 0, none⟩ = some (.int .i64 a2_0) := (blk_cell BK172.out 0).trans rfl; have hcz10_1 : w8.cell? ⟨gb172, 1, none⟩ = some (.int .i64 a2_1) := (blk_cell BK172.out 1).trans rfl; have hcz10_2 : w8.cell? ⟨gb172, 2, none⟩ = some (.int .i64 a2_2) := (blk_cell BK172.out 2).trans rfl; have hfz10_0 := blk_frozen BK172.out 0; have hfz10_1 := blk_frozen BK172.out 1; have hfz10_2 := blk_frozen BK172.out 2) | ((with_reducible refine gate_dst (N := 12) rfl ?_); (try (refine gate_guard (by rfl) ?_; dsimp only)); refine box_event ?hg (N := 12) ?hd (cs := #[.int .i64 0, .int .i64 0]) (t := 71) ?hr ?_; (case hd => rfl); (case hg => rfl); (case hr => first | (go_simp; done) | (go_simp; rfl)); intro gb174 hg w11 hbox hb; have n0_ := Aside0.mk (blk_below (g := gb172) (o := .cells #[.int .i64 a2_0, .int .i64 a2_1, .int .i64 a2_2] 52 (0, 0)) (by (with_reducible repeat (first | refine blk_drewN ?_ _ | refine blk_drew ?_ | refine blk_alloc ?_ _)); exact BK172.out) hb); have n1_ := Aside0.mk (blk_below (g := gb173) (o := .cells #[.int .i64 0, .int .i64 0, .int .i64 0] 28 (0, 0)) (by (with_reducible repeat (first | refine blk_drewN ?_ _ | refine blk_drew ?_ | refine blk_alloc ?_ _)); exact BK173.out) hb); have n2_ := Aside0.mk (below_step (by repeat (first | (with_reducible first | exact HB.out | apply below_alloc | apply pw_below_drewN | apply below_drew1 | refine below_set ?_ GE172.out | refine below_set ?_ GE173.out) | exact HB.out)) hb); have n3_ := Aside0.mk (hbox); have n4_ := Aside0.mk ((by rw [hg]; exact (below_size (by repeat (first | (with_reducible first | exact HB.out | apply below_alloc | apply pw_below_drewN | apply below_drew1 | refine below_set ?_ GE172.out | refine below_set ?_ GE173.out) | exact HB.out))) : w.heap.size ≤ gb174)); have n5_ := Aside0.mk ((by rw [hg]; exact (below_size (by repeat (first | (with_reducible first | exact HB.out | apply below_alloc | apply pw_below_drewN | apply below_drew1 | refine below_set ?_ GE172.out | refine below_set ?_ GE173.out) | exact HB.out))) : w.heap.size ≤ gb174)); have n6_ := Aside0.mk ((by rw [hg]; exact Nat.ne_of_lt (blk_lt (g := gb172) (o := .cells #[.int .i64 a2_0, .int .i64 a2_1, .int .i64 a2_2] 52 (0, 0)) (by (with_reducible repeat (first | refine blk_drewN ?_ _ | refine blk_drew ?_ | refine blk_alloc ?_ _)); exact BK172.out)) : gb172 ≠ gb174)); have n7_ := Aside0.mk ((by rw [hg]; exact Nat.ne_of_gt (blk_lt (g := gb172) (o := .cells #[.int .i64 a2_0, .int .i64 a2_1, .int .i64 a2_2] 52 (0, 0)) (by (with_reducible repeat (first | refine blk_drewN ?_ _ | refine blk_drew ?_ | refine blk_alloc ?_ _)); exact BK172.out)) : gb174 ≠ gb172)); have n8_ := Aside0.mk ((by rw [hg]; exact Nat.ne_of_lt (blk_lt (g := gb173) (o := .cells #[.int .i64 0, .int .i64 0, .int .i64 0] 28 (0, 0)) (by (with_reducible repeat (first | refine blk_drewN ?_ _ | refine blk_drew ?_ | refine blk_alloc ?_ _)); exact BK173.out)) : gb173 ≠ gb174)); have n9_ := Aside0.mk ((by rw [hg]; exact Nat.ne_of_gt (blk_lt (g := gb173) (o := .cells #[.int .i64 0, .int .i64 0, .int .i64 0] 28 (0, 0)) (by (with_reducible repeat (first | refine blk_drewN ?_ _ | refine blk_drew ?_ | refine blk_alloc ?_ _)); exact BK173.out)) : gb174 ≠ gb173)); clear BK172; clear BK173; clear HB; have BK172 := n0_; have BK173 := n1_; have HB := n2_; have BK174 := n3_; have GW174 := n4_; have GE174 := n5_; have NB172_174 := n6_; have NB174_172 := n7_; have NB173_174 := n8_; have NB174_173 := n9_; clear n0_ n1_ n2_ n3_ n4_ n5_ n6_ n7_ n8_ n9_; clear hb hbox hg; have hnb12 := NB174_172.out; have hnc12 := NB172_174.out; have hnb13 := NB174_173.out; have hnc13 := NB173_174.out; have hcz14_0 : w11.cell? ⟨gb174, 0, none⟩ = some (.int .i64 0) := (blk_cell BK174.out 0).trans rfl; have hcz14_1 : w11.cell? ⟨gb174, 1, none⟩ = some (.int .i64 0) := (blk_cell BK174.out 1).trans rfl; have hfz14_0 := blk_frozen BK174.out 0; have hfz14_1 := blk_frozen BK174.out 1))
  (try simp only [Act.put, List.setIfInBounds_toArray, List.set_cons_zero, List.set_cons_succ])
  go_cut [44] (fun v44 wc => ∃ (kq : Nat) (x44_5 : Bool), v44 = .bool x44_5 ∧ Aside0 (score_Of.j0 kq l0 a1 a3 a4 x44_5 a2_1 a2_2 = some (r1, r2, r3, r4)) ∧ Aside0 (kq ≤ k) ∧ Aside0 (wc.heap[gb172]? = some (.cells #[.int .i64 a2_0, .int .i64 a2_1, .int .i64 a2_2] 52 (0, 0))) ∧ Aside0 (wc.heap[gb173]? = some (.cells #[.int .i64 0, .int .i64 0, .int .i64 0] 28 (0, 0))) ∧ Aside0 (wc.heap[gb174]? = some (.cells #[.int .i64 a2_1, .int .i64 a2_2] 71 (0, 0))) ∧ Aside0 (Below w.heap.size w wc))
  case first =>
    have H := HC6.out
    clear HC6
    by_cases c15 : a1 < 0
    · rw [if_pos c15] at H
      have c15b0 : decide (a1 < 0) = true := decide_eq_true c15
      clear c15
      (first | rw [c15b0] | (simp only [i64_w, i32_w]; rw [c15b0]) | skip)
      have H' := Aside0.mk H
      clear H
      go_wp2
      go_meet
      case rel => exact ⟨_, (true), (by first | rfl | (simp; done) | (simp [*]; done) | exact congrArg (Value.int _) (by unfold wrap64; omega)), H', ⟨by first | omega | exact Nat.le_refl _⟩, ⟨by (with_reducible repeat (first | refine blk_drewN ?_ _ | refine blk_drew ?_ | refine blk_alloc ?_ _)); refine blk_far ?_ NB172_174.out _; (with_reducible repeat (first | refine blk_drewN ?_ _ | refine blk_drew ?_ | refine blk_alloc ?_ _)); refine blk_far ?_ NB172_174.out _; (with_reducible repeat (first | refine blk_drewN ?_ _ | refine blk_drew ?_ | refine blk_alloc ?_ _)); exact BK172.out⟩, ⟨by (with_reducible repeat (first | refine blk_drewN ?_ _ | refine blk_drew ?_ | refine blk_alloc ?_ _)); refine blk_far ?_ NB173_174.out _; (with_reducible repeat (first | refine blk_drewN ?_ _ | refine blk_drew ?_ | refine blk_alloc ?_ _)); refine blk_far ?_ NB173_174.out _; (with_reducible repeat (first | refine blk_drewN ?_ _ | refine blk_drew ?_ | refine blk_alloc ?_ _)); exact BK173.out⟩, ⟨by (with_reducible repeat (first | refine blk_drewN ?_ _ | refine blk_drew ?_ | refine blk_alloc ?_ _)); refine blk_put (cs := #[.int .i64 a2_1, .int .i64 0]) ?_ 1 _ rfl; (with_reducible repeat (first | refine blk_drewN ?_ _ | refine blk_drew ?_ | refine blk_alloc ?_ _)); refine blk_put (cs := #[.int .i64 0, .int .i64 0]) ?_ 0 _ rfl; (with_reducible repeat (first | refine blk_drewN ?_ _ | refine blk_drew ?_ | refine blk_alloc ?_ _)); exact BK174.out⟩, ⟨by repeat (first | (with_reducible first | exact HB.out | apply below_alloc | apply pw_below_drewN | apply below_drew1 | refine below_set ?_ GE172.out | refine below_set ?_ GE173.out | refine below_set ?_ GE174.out) | exact HB.out)⟩⟩
    · rw [if_neg c15] at H
      have c15b0 : decide (a1 < 0) = false := decide_eq_false c15
      clear c15
      (first | rw [c15b0] | (simp only [i64_w, i32_w]; rw [c15b0]) | skip)
      by_cases c16 : a1 ≥ (l0.length : Int)
      · rw [if_pos c16] at H
        have c16b0 : decide ((l0.length : Int) ≤ a1) = true := decide_eq_true c16
        clear c16
        have H' := Aside0.mk H
        clear H
        go_wp2
        go_meet
        case rel => exact ⟨_, (true), (by first | rfl | (simp; done) | (simp [*]; done) | exact congrArg (Value.int _) (by unfold wrap64; omega)), H', ⟨by first | omega | exact Nat.le_refl _⟩, ⟨by (with_reducible repeat (first | refine blk_drewN ?_ _ | refine blk_drew ?_ | refine blk_alloc ?_ _)); refine blk_far ?_ NB172_174.out _; (with_reducible repeat (first | refine blk_drewN ?_ _ | refine blk_drew ?_ | refine blk_alloc ?_ _)); refine blk_far ?_ NB172_174.out _; (with_reducible repeat (first | refine blk_drewN ?_ _ | refine blk_drew ?_ | refine blk_alloc ?_ _)); exact BK172.out⟩, ⟨by (with_reducible repeat (first | refine blk_drewN ?_ _ | refine blk_drew ?_ | refine blk_alloc ?_ _)); refine blk_far ?_ NB173_174.out _; (with_reducible repeat (first | refine blk_drewN ?_ _ | refine blk_drew ?_ | refine blk_alloc ?_ _)); refine blk_far ?_ NB173_174.out _; (with_reducible repeat (first | refine blk_drewN ?_ _ | refine blk_drew ?_ | refine blk_alloc ?_ _)); exact BK173.out⟩, ⟨by (with_reducible repeat (first | refine blk_drewN ?_ _ | refine blk_drew ?_ | refine blk_alloc ?_ _)); refine blk_put (cs := #[.int .i64 a2_1, .int .i64 0]) ?_ 1 _ rfl; (with_reducible repeat (first | refine blk_drewN ?_ _ | refine blk_drew ?_ | refine blk_alloc ?_ _)); refine blk_put (cs := #[.int .i64 0, .int .i64 0]) ?_ 0 _ rfl; (with_reducible repeat (first | refine blk_drewN ?_ _ | refine blk_drew ?_ | refine blk_alloc ?_ _)); exact BK174.out⟩, ⟨by repeat (first | (with_reducible first | exact HB.out | apply below_alloc | apply pw_below_drewN | apply below_drew1 | refine below_set ?_ GE172.out | refine below_set ?_ GE173.out | refine below_set ?_ GE174.out) | exact HB.out)⟩⟩
      · rw [if_neg c16] at H
        have c16b0 : decide ((l0.length : Int) ≤ a1) = false := decide_eq_false c16
        clear c16
        replace H := Option.bind_eq_some_iff.mp H
        obtain ⟨t175, A170, H⟩ := H
        replace H : (if t175 = true then (if a3 < 1 then (score_Of.j0 k l0 a1 a3 a4 true a2_1 a2_2) else (score_Of.j0 k l0 a1 a3 a4 (decide (a3 > 1048576)) a2_1 a2_2)) else (score_Of.j0 k l0 a1 a3 a4 true a2_1 a2_2)) = some (r1, r2, r3, r4) := H
        have A17 := Aside0.mk A170
        clear A170
        by_cases c18 : t175 = true
        · subst c18
          have H1 : (if a3 < 1 then (score_Of.j0 k l0 a1 a3 a4 true a2_1 a2_2) else (score_Of.j0 k l0 a1 a3 a4 (decide (a3 > 1048576)) a2_1 a2_2)) = some (r1, r2, r3, r4) := by rw [if_pos rfl] at H; exact H
          clear H
          have H := H1
          clear H1
          by_cases c19 : a3 < 1
          · rw [if_pos c19] at H
            have c19b0 : decide (a3 < 1) = true := decide_eq_true c19
            clear c19
            have H' := Aside0.mk H
            clear H
            have hnb20 := NB174_172.out
            have hnc20 := NB172_174.out
            have hnb21 := NB174_173.out
            have hnc21 := NB173_174.out
            have hcz22_0 : w11.cell? ⟨gb174, 0, none⟩ = some (.int .i64 0) := (blk_cell BK174.out 0).trans rfl
            have hcz22_1 : w11.cell? ⟨gb174, 1, none⟩ = some (.int .i64 0) := (blk_cell BK174.out 1).trans rfl
            have hfz22_0 := blk_frozen BK174.out 0
            have hfz22_1 := blk_frozen BK174.out 1
            go_wp2_with (first | (go_at_call 33; (with_reducible refine (score_weights_valid.calls a2_1 a2_2 true _ A17.out).mono ?_); rintro e w23 ⟨rfl, hb⟩; have n0_ := Aside0.mk (blk_below (g := gb172) (o := .cells #[.int .i64 a2_0, .int .i64 a2_1, .int .i64 a2_2] 52 (0, 0)) (by (with_reducible repeat (first | refine blk_drewN ?_ _ | refine blk_drew ?_ | refine blk_alloc ?_ _)); refine blk_far ?_ NB172_174.out _; (with_reducible repeat (first | refine blk_drewN ?_ _ | refine blk_drew ?_ | refine blk_alloc ?_ _)); refine blk_far ?_ NB172_174.out _; (with_reducible repeat (first | refine blk_drewN ?_ _ | refine blk_drew ?_ | refine blk_alloc ?_ _)); exact BK172.out) hb); have n1_ := Aside0.mk (blk_below (g := gb173) (o := .cells #[.int .i64 0, .int .i64 0, .int .i64 0] 28 (0, 0)) (by (with_reducible repeat (first | refine blk_drewN ?_ _ | refine blk_drew ?_ | refine blk_alloc ?_ _)); refine blk_far ?_ NB173_174.out _; (with_reducible repeat (first | refine blk_drewN ?_ _ | refine blk_drew ?_ | refine blk_alloc ?_ _)); refine blk_far ?_ NB173_174.out _; (with_reducible repeat (first | refine blk_drewN ?_ _ | refine blk_drew ?_ | refine blk_alloc ?_ _)); exact BK173.out) hb); have n2_ := Aside0.mk (blk_below (g := gb174) (o := .cells #[.int .i64 a2_1, .int .i64 a2_2] 71 (0, 0)) (by (with_reducible repeat (first | refine blk_drewN ?_ _ | refine blk_drew ?_ | refine blk_alloc ?_ _)); refine blk_put (cs := #[.int .i64 a2_1, .int .i64 0]) ?_ 1 _ rfl; (with_reducible repeat (first | refine blk_drewN ?_ _ | refine blk_drew ?_ | refine blk_alloc ?_ _)); refine blk_put (cs := #[.int .i64 0, .int .i64 0]) ?_ 0 _ rfl; (with_reducible repeat (first | refine blk_drewN ?_ _ | refine blk_drew ?_ | refine blk_alloc ?_ _)); exact BK174.out) hb); have n3_ := Aside0.mk (below_step (by repeat (first | (with_reducible first | exact HB.out | apply below_alloc | apply pw_below_drewN | apply below_drew1 | refine below_set ?_ GE172.out | refine below_set ?_ GE173.out | refine below_set ?_ GE174.out) | exact HB.out)) hb); clear BK172; clear BK173; clear BK174; clear HB; have BK172 := n0_; have BK173 := n1_; have BK174 := n2_; have HB := n3_; clear n0_ n1_ n2_ n3_; (try clear hb); (try clear hb2); (try clear hk); (try clear hi)))
            go_meet
            case rel => exact ⟨_, (true), (by first | rfl | (simp; done) | (simp [*]; done) | exact congrArg (Value.int _) (by unfold wrap64; omega)), H', ⟨by first | omega | exact Nat.le_refl _⟩, ⟨by (with_reducible repeat (first | refine blk_drewN ?_ _ | refine blk_drew ?_ | refine blk_alloc ?_ _)); exact BK172.out⟩, ⟨by (with_reducible repeat (first | refine blk_drewN ?_ _ | refine blk_drew ?_ | refine blk_alloc ?_ _)); exact BK173.out⟩, ⟨by (with_reducible repeat (first | refine blk_drewN ?_ _ | refine blk_drew ?_ | refine blk_alloc ?_ _)); exact BK174.out⟩, ⟨by repeat (first | (with_reducible first | exact HB.out | apply below_alloc | apply pw_below_drewN | apply below_drew1 | refine below_set ?_ GE172.out | refine below_set ?_ GE173.out | refine below_set ?_ GE174.out) | exact HB.out)⟩⟩
          · rw [if_neg c19] at H
            have c19b0 : decide (a3 < 1) = false := decide_eq_false c19
            clear c19
            have H' := Aside0.mk H
            clear H
            have hnb24 := NB174_172.out
            have hnc24 := NB172_174.out
            have hnb25 := NB174_173.out
            have hnc25 := NB173_174.out
            have hcz26_0 : w11.cell? ⟨gb174, 0, none⟩ = some (.int .i64 0) := (blk_cell BK174.out 0).trans rfl
            have hcz26_1 : w11.cell? ⟨gb174, 1, none⟩ = some (.int .i64 0) := (blk_cell BK174.out 1).trans rfl
            have hfz26_0 := blk_frozen BK174.out 0
            have hfz26_1 := blk_frozen BK174.out 1
            go_wp2_with (first | (go_at_call 33; (with_reducible refine (score_weights_valid.calls a2_1 a2_2 true _ A17.out).mono ?_); rintro e w27 ⟨rfl, hb⟩; have n0_ := Aside0.mk (blk_below (g := gb172) (o := .cells #[.int .i64 a2_0, .int .i64 a2_1, .int .i64 a2_2] 52 (0, 0)) (by (with_reducible repeat (first | refine blk_drewN ?_ _ | refine blk_drew ?_ | refine blk_alloc ?_ _)); refine blk_far ?_ NB172_174.out _; (with_reducible repeat (first | refine blk_drewN ?_ _ | refine blk_drew ?_ | refine blk_alloc ?_ _)); refine blk_far ?_ NB172_174.out _; (with_reducible repeat (first | refine blk_drewN ?_ _ | refine blk_drew ?_ | refine blk_alloc ?_ _)); exact BK172.out) hb); have n1_ := Aside0.mk (blk_below (g := gb173) (o := .cells #[.int .i64 0, .int .i64 0, .int .i64 0] 28 (0, 0)) (by (with_reducible repeat (first | refine blk_drewN ?_ _ | refine blk_drew ?_ | refine blk_alloc ?_ _)); refine blk_far ?_ NB173_174.out _; (with_reducible repeat (first | refine blk_drewN ?_ _ | refine blk_drew ?_ | refine blk_alloc ?_ _)); refine blk_far ?_ NB173_174.out _; (with_reducible repeat (first | refine blk_drewN ?_ _ | refine blk_drew ?_ | refine blk_alloc ?_ _)); exact BK173.out) hb); have n2_ := Aside0.mk (blk_below (g := gb174) (o := .cells #[.int .i64 a2_1, .int .i64 a2_2] 71 (0, 0)) (by (with_reducible repeat (first | refine blk_drewN ?_ _ | refine blk_drew ?_ | refine blk_alloc ?_ _)); refine blk_put (cs := #[.int .i64 a2_1, .int .i64 0]) ?_ 1 _ rfl; (with_reducible repeat (first | refine blk_drewN ?_ _ | refine blk_drew ?_ | refine blk_alloc ?_ _)); refine blk_put (cs := #[.int .i64 0, .int .i64 0]) ?_ 0 _ rfl; (with_reducible repeat (first | refine blk_drewN ?_ _ | refine blk_drew ?_ | refine blk_alloc ?_ _)); exact BK174.out) hb); have n3_ := Aside0.mk (below_step (by repeat (first | (with_reducible first | exact HB.out | apply below_alloc | apply pw_below_drewN | apply below_drew1 | refine below_set ?_ GE172.out | refine below_set ?_ GE173.out | refine below_set ?_ GE174.out) | exact HB.out)) hb); clear BK172; clear BK173; clear BK174; clear HB; have BK172 := n0_; have BK173 := n1_; have BK174 := n2_; have HB := n3_; clear n0_ n1_ n2_ n3_; (try clear hb); (try clear hb2); (try clear hk); (try clear hi)))
            go_meet
            case rel => exact ⟨_, (decide (a3 > 1048576)), (by first | rfl | (simp; done) | (simp [*]; done) | exact congrArg (Value.int _) (by unfold wrap64; omega)), H', ⟨by first | omega | exact Nat.le_refl _⟩, ⟨by (with_reducible repeat (first | refine blk_drewN ?_ _ | refine blk_drew ?_ | refine blk_alloc ?_ _)); exact BK172.out⟩, ⟨by (with_reducible repeat (first | refine blk_drewN ?_ _ | refine blk_drew ?_ | refine blk_alloc ?_ _)); exact BK173.out⟩, ⟨by (with_reducible repeat (first | refine blk_drewN ?_ _ | refine blk_drew ?_ | refine blk_alloc ?_ _)); exact BK174.out⟩, ⟨by repeat (first | (with_reducible first | exact HB.out | apply below_alloc | apply pw_below_drewN | apply below_drew1 | refine below_set ?_ GE172.out | refine below_set ?_ GE173.out | refine below_set ?_ GE174.out) | exact HB.out)⟩⟩
        · replace c18 := Bool.eq_false_iff.mpr c18
          subst c18
          have H1 : (score_Of.j0 k l0 a1 a3 a4 true a2_1 a2_2) = some (r1, r2, r3, r4) := by rw [if_neg (show ¬ (false = true) by decide)] at H; exact H
          clear H
          have H := H1
          clear H1
          have H' := Aside0.mk H
          clear H
          have hnb28 := NB174_172.out
          have hnc28 := NB172_174.out
          have hnb29 := NB174_173.out
          have hnc29 := NB173_174.out
          have hcz30_0 : w11.cell? ⟨gb174, 0, none⟩ = some (.int .i64 0) := (blk_cell BK174.out 0).trans rfl
          have hcz30_1 : w11.cell? ⟨gb174, 1, none⟩ = some (.int .i64 0) := (blk_cell BK174.out 1).trans rfl
          have hfz30_0 := blk_frozen BK174.out 0
          have hfz30_1 := blk_frozen BK174.out 1
          go_wp2_with (first | (go_at_call 33; (with_reducible refine (score_weights_valid.calls a2_1 a2_2 false _ A17.out).mono ?_); rintro e w31 ⟨rfl, hb⟩; have n0_ := Aside0.mk (blk_below (g := gb172) (o := .cells #[.int .i64 a2_0, .int .i64 a2_1, .int .i64 a2_2] 52 (0, 0)) (by (with_reducible repeat (first | refine blk_drewN ?_ _ | refine blk_drew ?_ | refine blk_alloc ?_ _)); refine blk_far ?_ NB172_174.out _; (with_reducible repeat (first | refine blk_drewN ?_ _ | refine blk_drew ?_ | refine blk_alloc ?_ _)); refine blk_far ?_ NB172_174.out _; (with_reducible repeat (first | refine blk_drewN ?_ _ | refine blk_drew ?_ | refine blk_alloc ?_ _)); exact BK172.out) hb); have n1_ := Aside0.mk (blk_below (g := gb173) (o := .cells #[.int .i64 0, .int .i64 0, .int .i64 0] 28 (0, 0)) (by (with_reducible repeat (first | refine blk_drewN ?_ _ | refine blk_drew ?_ | refine blk_alloc ?_ _)); refine blk_far ?_ NB173_174.out _; (with_reducible repeat (first | refine blk_drewN ?_ _ | refine blk_drew ?_ | refine blk_alloc ?_ _)); refine blk_far ?_ NB173_174.out _; (with_reducible repeat (first | refine blk_drewN ?_ _ | refine blk_drew ?_ | refine blk_alloc ?_ _)); exact BK173.out) hb); have n2_ := Aside0.mk (blk_below (g := gb174) (o := .cells #[.int .i64 a2_1, .int .i64 a2_2] 71 (0, 0)) (by (with_reducible repeat (first | refine blk_drewN ?_ _ | refine blk_drew ?_ | refine blk_alloc ?_ _)); refine blk_put (cs := #[.int .i64 a2_1, .int .i64 0]) ?_ 1 _ rfl; (with_reducible repeat (first | refine blk_drewN ?_ _ | refine blk_drew ?_ | refine blk_alloc ?_ _)); refine blk_put (cs := #[.int .i64 0, .int .i64 0]) ?_ 0 _ rfl; (with_reducible repeat (first | refine blk_drewN ?_ _ | refine blk_drew ?_ | refine blk_alloc ?_ _)); exact BK174.out) hb); have n3_ := Aside0.mk (below_step (by repeat (first | (with_reducible first | exact HB.out | apply below_alloc | apply pw_below_drewN | apply below_drew1 | refine below_set ?_ GE172.out | refine below_set ?_ GE173.out | refine below_set ?_ GE174.out) | exact HB.out)) hb); clear BK172; clear BK173; clear BK174; clear HB; have BK172 := n0_; have BK173 := n1_; have BK174 := n2_; have HB := n3_; clear n0_ n1_ n2_ n3_; (try clear hb); (try clear hb2); (try clear hk); (try clear hi)))
          go_meet
          case rel => exact ⟨_, (true), (by first | rfl | (simp; done) | (simp [*]; done) | exact congrArg (Value.int _) (by unfold wrap64; omega)), H', ⟨by first | omega | exact Nat.le_refl _⟩, ⟨by (with_reducible repeat (first | refine blk_drewN ?_ _ | refine blk_drew ?_ | refine blk_alloc ?_ _)); exact BK172.out⟩, ⟨by (with_reducible repeat (first | refine blk_drewN ?_ _ | refine blk_drew ?_ | refine blk_alloc ?_ _)); exact BK173.out⟩, ⟨by (with_reducible repeat (first | refine blk_drewN ?_ _ | refine blk_drew ?_ | refine blk_alloc ?_ _)); exact BK174.out⟩, ⟨by repeat (first | (with_reducible first | exact HB.out | apply below_alloc | apply pw_below_drewN | apply below_drew1 | refine below_set ?_ GE172.out | refine below_set ?_ GE173.out | refine below_set ?_ GE174.out) | exact HB.out)⟩⟩
  case rest =>
    clear HC6
    try clear c1
    try clear c2
    try clear p2
    try clear p6
    try clear c9
    try clear c12
    try clear c13
    try clear c15
    try clear c15b0
    try clear c16
    try clear c16b0
    try clear c18
    try clear c19
    try clear c19b0
    try clear c20
    try clear c21
    try clear c24
    try clear c25
    try clear c28
    try clear c29
    try clear hcz10_0
    try clear hcz10_1
    try clear hcz10_2
    try clear hcz14_0
    try clear hcz14_1
    try clear hcz22_0
    try clear hcz22_1
    try clear hcz26_0
    try clear hcz26_1
    try clear hcz30_0
    try clear hcz30_1
    try clear hfz10_0
    try clear hfz10_1
    try clear hfz10_2
    try clear hfz14_0
    try clear hfz14_1
    try clear hfz22_0
    try clear hfz22_1
    try clear hfz26_0
    try clear hfz26_1
    try clear hfz30_0
    try clear hfz30_1
    obtain ⟨kq, x44_5, rfl, HA, HJ5, BK172, BK173, BK174, HB⟩ := hcut
    cases kq with
    | zero => exact absurd HA.out (by simp [score_Of.j0])
    | succ kj5 =>
      have H := HA.out
      clear HA
      simp only [score_Of.j0] at H
      by_cases c32 : x44_5 = true
      · subst c32
        have H1 : (some (0, 0, 0, false)) = some (r1, r2, r3, r4) := by rw [if_pos rfl] at H; exact H
        clear H
        have H := H1
        clear H1
        simp only [Option.some.injEq, Prod.mk.injEq] at H
        obtain ⟨rfl, rfl, rfl, rfl⟩ := H
        have hnb33 := NB173_172.out
        have hnc33 := NB172_173.out
        have hnb34 := NB173_174.out
        have hnc34 := NB174_173.out
        have hcz35_0 : wc.cell? ⟨gb173, 0, none⟩ = some (.int .i64 0) := (blk_cell BK173.out 0).trans rfl
        have hcz35_1 : wc.cell? ⟨gb173, 1, none⟩ = some (.int .i64 0) := (blk_cell BK173.out 1).trans rfl
        have hcz35_2 : wc.cell? ⟨gb173, 2, none⟩ = some (.int .i64 0) := (blk_cell BK173.out 2).trans rfl
        have hfz35_0 := blk_frozen BK173.out 0
        have hfz35_1 := blk_frozen BK173.out 1
        have hfz35_2 := blk_frozen BK173.out 2
        go_wp2
        refine bodyPost_ret (results_ct rfl _ _ gb173 28 #[.int .i64 0, .int .i64 0, .int .i64 0] (0, 0) _ rfl (by (with_reducible repeat (first | refine blk_drewN ?_ _ | refine blk_drew ?_ | refine blk_alloc ?_ _)); refine blk_put (cs := #[.int .i64 0, .int .i64 0, .int .i64 0]) ?_ 2 _ rfl; (with_reducible repeat (first | refine blk_drewN ?_ _ | refine blk_drew ?_ | refine blk_alloc ?_ _)); refine blk_put (cs := #[.int .i64 0, .int .i64 0, .int .i64 0]) ?_ 1 _ rfl; (with_reducible repeat (first | refine blk_drewN ?_ _ | refine blk_drew ?_ | refine blk_alloc ?_ _)); refine blk_put (cs := #[.int .i64 0, .int .i64 0, .int .i64 0]) ?_ 0 _ rfl; (with_reducible repeat (first | refine blk_drewN ?_ _ | refine blk_drew ?_ | refine blk_alloc ?_ _)); exact BK173.out) Try.underlying28 rfl (by kernel_rfl)) rfl ?_
        exact ⟨by first | rfl | (simp [errW_none, errW_some] <;> rfl) | (simp [*, errW_none, errW_some] <;> rfl), by repeat (first | (with_reducible first | exact HB.out | apply below_alloc | apply pw_below_drewN | apply below_drew1 | refine below_set ?_ GE172.out | refine below_set ?_ GE173.out | refine below_set ?_ GE174.out) | exact HB.out)⟩
      · replace c32 := Bool.eq_false_iff.mpr c32
        subst c32
        have H1 : (if 0 ≤ (wrap64 (a1 + 1)) then (if (wrap64 (a1 + 1)) ≤ (l0.length : Int) then ((some (l0.take ((wrap64 (a1 + 1)) : Int).toNat : List (S58))).bind fun y176 => (score_Of.l0 kj5 l0 a1 a3 a4 y176 (y176.length : Int) 0 a2_1 a2_2)) else (none)) else (none)) = some (r1, r2, r3, r4) := by rw [if_neg (show ¬ (false = true) by decide)] at H; exact H
        clear H
        have H := H1
        clear H1
        obtain ⟨ji36, hji36⟩ : ∃ j_ : Int, (wrap64 (a1 + 1)) = j_ := ⟨_, rfl⟩
        replace H : (if 0 ≤ (ji36) then (if (ji36) ≤ (l0.length : Int) then ((some (l0.take ((ji36) : Int).toNat : List (S58))).bind fun y176 => (score_Of.l0 kj5 l0 a1 a3 a4 y176 (y176.length : Int) 0 a2_1 a2_2)) else (none)) else (none)) = some (r1, r2, r3, r4) := by first | (rw [hji36] at H; exact H) | (simp only [hji36] at H ⊢; exact H)
        have hji36w : (IntKind.i64.wrap (a1 + 1)) = ji36 := (i64_w _).trans hji36
        by_cases c37 : 0 ≤ (ji36)
        · rw [if_pos c37] at H
          have c37b0 := eq_true c37
          have c37b1 : decide (0 ≤ (ji36)) = true := decide_eq_true c37
          clear c37
          by_cases c38 : (ji36) ≤ (l0.length : Int)
          · rw [if_pos c38] at H
            have c38b0 := eq_true c38
            have c38b1 : decide ((ji36) ≤ (l0.length : Int)) = true := decide_eq_true c38
            clear c38
            obtain ⟨y176, hy176⟩ : ∃ y_ : List (S58), y_ = (l0.take ((ji36) : Int).toNat) := ⟨_, rfl⟩
            replace H : (score_Of.l0 kj5 l0 a1 a3 a4 y176 (y176.length : Int) 0 a2_1 a2_2) = some (r1, r2, r3, r4) := by first | (rw [hy176]; with_reducible exact H) | (have H2_ := (Option.bind_some _ _).symm.trans H; rw [hy176]; with_reducible exact H2_) | (have H2_ := (Option.bind_some _ _).symm.trans H; with_reducible exact H2_) | with_reducible exact H | (rw [hy176]; exact H) | exact H
            have Ny176 := Aside0.mk hy176
            clear hy176
            have H' := Aside0.mk H
            clear H
            have q39 : ((ji36) : Int) ≤ ((l0.length : Int) : Int) := of_decide_eq_true (by first | (with_reducible assumption) | assumption)
            obtain ⟨i039, hi039, _, hsz39, _⟩ := info_parts info58
            have hroom39 : l0.length ≤ c0 := HC0.out
            have hC39 : Kd.C k58 _ A0 l0.length l0 := HR0.out
            have hcut39 := cut_to (P := Try.prog) 49 58 .i64 Try.underlying49 hi039 A0 l0.length c0 (ji36) (of_decide_eq_true (by first | (with_reducible assumption) | assumption)) q39 hroom39
            have hr39 := Kd.C_take (m := ((ji36) : Int).toNat) hC39 (by omega)
            have hy39 : y176.length = ((ji36) : Int).toNat := (by rw [Ny176.out, List.length_take]; omega)
            rw [← Ny176.out] at hr39
            rw [← hy39] at hcut39
            have HR179 := Aside0.mk hr39
            have HC179 := Aside0.mk (show y176.length ≤ c0 from by omega)
            clear hr39 hC39 hroom39 hi039 hsz39
            have KY39 := Aside0.mk hy39
            clear hy39
            replace q39 := eq_true q39
            go_wp2
            go_loopg [51] kj5 (fun kq v51 w' => ∃ (x51_2 : Int) (x174000_2 : Int) (x174001_2 : Int) (x174002_2 : Int), v51 = .int .i64 x51_2 ∧ Aside0 (score_Of.l0 kq l0 a1 a3 a4 y176 (y176.length : Int) x51_2 a2_1 a2_2 = some (r1, r2, r3, r4)) ∧ Aside0 (kq ≤ kj5) ∧ Aside0 (w'.heap[gb172]? = some (.cells #[.int .i64 a2_0, .int .i64 a2_1, .int .i64 a2_2] 52 (0, 0))) ∧ Aside0 (w'.heap[gb173]? = some (.cells #[.int .i64 x174000_2, .int .i64 x174001_2, .int .i64 x174002_2] 28 (0, 0))) ∧ Aside0 (w'.heap[gb174]? = some (.cells #[.int .i64 a2_1, .int .i64 a2_2] 71 (0, 0))) ∧ Aside0 (Below w.heap.size w w'))
            case atStart => exact ⟨(0), (0), (0), (0), (by first | rfl | (simp; done) | (simp [*]; done) | exact congrArg (Value.int _) (by unfold wrap64; omega)), H', ⟨Nat.le_refl _⟩, ⟨by (with_reducible repeat (first | refine blk_drewN ?_ _ | refine blk_drew ?_ | refine blk_alloc ?_ _)); exact BK172.out⟩, ⟨by (with_reducible repeat (first | refine blk_drewN ?_ _ | refine blk_drew ?_ | refine blk_alloc ?_ _)); exact BK173.out⟩, ⟨by (with_reducible repeat (first | refine blk_drewN ?_ _ | refine blk_drew ?_ | refine blk_alloc ?_ _)); exact BK174.out⟩, ⟨by repeat (first | (with_reducible first | exact HB.out | apply below_alloc | apply pw_below_drewN | apply below_drew1 | refine below_set ?_ GE172.out | refine below_set ?_ GE173.out | refine below_set ?_ GE174.out) | exact HB.out)⟩⟩
            case round =>
              clear H'
              try clear c1
              try clear c2
              try clear p2
              try clear c3
              try clear q3
              try clear p6
              try clear c9
              try clear c12
              try clear c13
              try clear c15
              try clear c15b0
              try clear c16
              try clear c16b0
              try clear c18
              try clear c19
              try clear c19b0
              try clear c20
              try clear c21
              try clear c24
              try clear c25
              try clear c28
              try clear c29
              try clear c32
              try clear c33
              try clear c34
              try clear c37
              try clear c37b0
              try clear c37b1
              try clear c38
              try clear c38b0
              try clear c38b1
              try clear q39
              try clear hcz10_0
              try clear hcz10_1
              try clear hcz10_2
              try clear hcz14_0
              try clear hcz14_1
              try clear hcz22_0
              try clear hcz22_1
              try clear hcz26_0
              try clear hcz26_1
              try clear hcz30_0
              try clear hcz30_1
              try clear hcz35_0
              try clear hcz35_1
              try clear hcz35_2
              try clear hfz10_0
              try clear hfz10_1
              try clear hfz10_2
              try clear hfz14_0
              try clear hfz14_1
              try clear hfz22_0
              try clear hfz22_1
              try clear hfz26_0
              try clear hfz26_1
              try clear hfz30_0
              try clear hfz30_1
              try clear hfz35_0
              try clear hfz35_1
              try clear hfz35_2
              try clear p2
              try clear p6
              try clear q39
              obtain ⟨x51_2, x174000_2, x174001_2, x174002_2, rfl, HA, HK2, BK172, BK173, BK174, HB⟩ := hrel
              cases gk with
              | zero => exact absurd HA.out (by simp [score_Of.l0])
              | succ k2 =>
                have H := HA.out
                clear HA
                simp only [score_Of.l0] at H
                by_cases c40 : x51_2 < (y176.length : Int)
                · rw [if_pos c40] at H
                  have c40b0 : decide (x51_2 < (y176.length : Int)) = true := decide_eq_true c40
                  clear c40
                  by_cases c41 : 0 ≤ x51_2
                  · rw [if_pos c41] at H
                    have c41b0 : decide (0 ≤ x51_2) = true := decide_eq_true c41
                    clear c41
                    by_cases c42 : x51_2 < (y176.length : Int)
                    · rw [if_pos c42] at H
                      have c42b0 : decide (x51_2 < (y176.length : Int)) = true := decide_eq_true c42
                      clear c42
                      by_cases c43 : ((rd_T58 y176 x51_2).f1) < 0
                      · rw [if_pos c43] at H
                        have c43b0 : decide (((rd_T58 y176 x51_2).f1) < 0) = true := decide_eq_true c43
                        clear c43
                        simp only [Option.some.injEq, Prod.mk.injEq] at H
                        obtain ⟨rfl, rfl, rfl, rfl⟩ := H
                        have p180 : 0 ≤ (x51_2 : Int) := of_decide_eq_true (by first | (with_reducible assumption) | assumption)
                        have q180 : x51_2 < (y176.length : Int) := of_decide_eq_true (by first | (with_reducible assumption) | assumption)
                        obtain ⟨ad180, e180, hx180_0, hx180_1, hx180_2, hx180_3, hx180_4, hx180_5, hx180_6, hx180_7, hx180_8, hx180_9⟩ := at_T58 HR179.out x51_2 p180 q180
                        cases e180
                        replace hx180_0 := (HB.out.cell (World.block_lt_of_cell? w _ hx180_0)).trans hx180_0
                        replace hx180_1 := (HB.out.cell (World.block_lt_of_cell? w _ hx180_1)).trans hx180_1
                        replace hx180_2 := (HB.out.cell (World.block_lt_of_cell? w _ hx180_2)).trans hx180_2
                        replace hx180_3 := (HB.out.cell (World.block_lt_of_cell? w _ hx180_3)).trans hx180_3
                        replace hx180_4 := (HB.out.cell (World.block_lt_of_cell? w _ hx180_4)).trans hx180_4
                        replace hx180_5 := (HB.out.cell (World.block_lt_of_cell? w _ hx180_5)).trans hx180_5
                        replace hx180_6 := (HB.out.cell (World.block_lt_of_cell? w _ hx180_6)).trans hx180_6
                        replace hx180_7 := (HB.out.cell (World.block_lt_of_cell? w _ hx180_7)).trans hx180_7
                        replace hx180_8 := (HB.out.cell (World.block_lt_of_cell? w _ hx180_8)).trans hx180_8
                        replace hx180_9 := (HB.out.cell (World.block_lt_of_cell? w _ hx180_9)).trans hx180_9
                        replace p180 := eq_true p180
                        replace q180 := eq_true q180
                        go_wp2_with (first | ((with_reducible refine gate_dst (N := 14) rfl ?_); (try (refine gate_guard (by rfl) ?_; dsimp only)); refine box_event ?hg (N := 14) ?hd (cs := #[.string (⟨#[]⟩ : ByteArray), .string (⟨#[]⟩ : ByteArray), .int .i64 0, .int .i64 0, .int .i64 0, .int .i64 0, .int .i64 0, .int .i64 0, .int .i64 0, .bool false]) (t := 58) ?hr ?_; (case hd => rfl); (case hg => rfl); (case hr => first | (go_simp; done) | (go_simp; rfl)); intro gb181 hg w44 hbox hb; have n0_ := Aside0.mk (blk_below (g := gb172) (o := .cells #[.int .i64 a2_0, .int .i64 a2_1, .int .i64 a2_2] 52 (0, 0)) (by (with_reducible repeat (first | refine blk_drewN ?_ _ | refine blk_drew ?_ | refine blk_alloc ?_ _)); exact BK172.out) hb); have n1_ := Aside0.mk (blk_below (g := gb173) (o := .cells #[.int .i64 x174000_2, .int .i64 x174001_2, .int .i64 x174002_2] 28 (0, 0)) (by (with_reducible repeat (first | refine blk_drewN ?_ _ | refine blk_drew ?_ | refine blk_alloc ?_ _)); exact BK173.out) hb); have n2_ := Aside0.mk (blk_below (g := gb174) (o := .cells #[.int .i64 a2_1, .int .i64 a2_2] 71 (0, 0)) (by (with_reducible repeat (first | refine blk_drewN ?_ _ | refine blk_drew ?_ | refine blk_alloc ?_ _)); exact BK174.out) hb); have n3_ := Aside0.mk (below_step (by repeat (first | (with_reducible first | exact HB.out | apply below_alloc | apply pw_below_drewN | apply below_drew1 | refine below_set ?_ GE172.out | refine below_set ?_ GE173.out | refine below_set ?_ GE174.out) | exact HB.out)) hb); have n4_ := Aside0.mk (hbox); have n5_ := Aside0.mk ((by rw [hg]; exact (below_size (by repeat (first | (with_reducible first | exact HB.out | apply below_alloc | apply pw_below_drewN | apply below_drew1 | refine below_set ?_ GE172.out | refine below_set ?_ GE173.out | refine below_set ?_ GE174.out) | exact HB.out))) : w.heap.size ≤ gb181)); have n6_ := Aside0.mk ((by rw [hg]; exact (below_size (by repeat (first | (with_reducible first | exact HB.out | apply below_alloc | apply pw_below_drewN | apply below_drew1 | refine below_set ?_ GE172.out | refine below_set ?_ GE173.out | refine below_set ?_ GE174.out) | exact HB.out))) : w.heap.size ≤ gb181)); have n7_ := Aside0.mk ((by rw [hg]; exact Nat.ne_of_lt (blk_lt (g := gb172) (o := .cells #[.int .i64 a2_0, .int .i64 a2_1, .int .i64 a2_2] 52 (0, 0)) (by (with_reducible repeat (first | refine blk_drewN ?_ _ | refine blk_drew ?_ | refine blk_alloc ?_ _)); exact BK172.out)) : gb172 ≠ gb181)); have n8_ := Aside0.mk ((by rw [hg]; exact Nat.ne_of_gt (blk_lt (g := gb172) (o := .cells #[.int .i64 a2_0, .int .i64 a2_1, .int .i64 a2_2] 52 (0, 0)) (by (with_reducible repeat (first | refine blk_drewN ?_ _ | refine blk_drew ?_ | refine blk_alloc ?_ _)); exact BK172.out)) : gb181 ≠ gb172)); have n9_ := Aside0.mk ((by rw [hg]; exact Nat.ne_of_lt (blk_lt (g := gb173) (o := .cells #[.int .i64 x174000_2, .int .i64 x174001_2, .int .i64 x174002_2] 28 (0, 0)) (by (with_reducible repeat (first | refine blk_drewN ?_ _ | refine blk_drew ?_ | refine blk_alloc ?_ _)); exact BK173.out)) : gb173 ≠ gb181)); have n10_ := Aside0.mk ((by rw [hg]; exact Nat.ne_of_gt (blk_lt (g := gb173) (o := .cells #[.int .i64 x174000_2, .int .i64 x174001_2, .int .i64 x174002_2] 28 (0, 0)) (by (with_reducible repeat (first | refine blk_drewN ?_ _ | refine blk_drew ?_ | refine blk_alloc ?_ _)); exact BK173.out)) : gb181 ≠ gb173)); have n11_ := Aside0.mk ((by rw [hg]; exact Nat.ne_of_lt (blk_lt (g := gb174) (o := .cells #[.int .i64 a2_1, .int .i64 a2_2] 71 (0, 0)) (by (with_reducible repeat (first | refine blk_drewN ?_ _ | refine blk_drew ?_ | refine blk_alloc ?_ _)); exact BK174.out)) : gb174 ≠ gb181)); have n12_ := Aside0.mk ((by rw [hg]; exact Nat.ne_of_gt (blk_lt (g := gb174) (o := .cells #[.int .i64 a2_1, .int .i64 a2_2] 71 (0, 0)) (by (with_reducible repeat (first | refine blk_drewN ?_ _ | refine blk_drew ?_ | refine blk_alloc ?_ _)); exact BK174.out)) : gb181 ≠ gb174)); clear BK172; clear BK173; clear BK174; clear HB; have BK172 := n0_; have BK173 := n1_; have BK174 := n2_; have HB := n3_; have BK181 := n4_; have GW181 := n5_; have GE181 := n6_; have NB172_181 := n7_; have NB181_172 := n8_; have NB173_181 := n9_; have NB181_173 := n10_; have NB174_181 := n11_; have NB181_174 := n12_; clear n0_ n1_ n2_ n3_ n4_ n5_ n6_ n7_ n8_ n9_ n10_ n11_ n12_; clear hb hbox hg; have hnb45 := NB181_172.out; have hnc45 := NB172_181.out; have hnb46 := NB181_173.out; have hnc46 := NB173_181.out; have hnb47 := NB181_174.out; have hnc47 := NB174_181.out; have hcz48_0 : w44.cell? ⟨gb181, 0, none⟩ = some (.string (⟨#[]⟩ : ByteArray)) := (blk_cell BK181.out 0).trans rfl; have hcz48_1 : w44.cell? ⟨gb181, 1, none⟩ = some (.string (⟨#[]⟩ : ByteArray)) := (blk_cell BK181.out 1).trans rfl; have hcz48_2 : w44.cell? ⟨gb181, 2, none⟩ = some (.int .i64 0) := (blk_cell BK181.out 2).trans rfl; have hcz48_3 : w44.cell? ⟨gb181, 3, none⟩ = some (.int .i64 0) := (blk_cell BK181.out 3).trans rfl; have hcz48_4 : w44.cell? ⟨gb181, 4, none⟩ = some (.int .i64 0) := (blk_cell BK181.out 4).trans rfl; have hcz48_5 : w44.cell? ⟨gb181, 5, none⟩ = some (.int .i64 0) := (blk_cell BK181.out 5).trans rfl; have hcz48_6 : w44.cell? ⟨gb181, 6, none⟩ = some (.int .i64 0) := (blk_cell BK181.out 6).trans rfl; have hcz48_7 : w44.cell? ⟨gb181, 7, none⟩ = some (.int .i64 0) := (blk_cell BK181.out 7).trans rfl; have hcz48_8 : w44.cell? ⟨gb181, 8, none⟩ = some (.int .i64 0) := (blk_cell BK181.out 8).trans rfl; have hcz48_9 : w44.cell? ⟨gb181, 9, none⟩ = some (.bool false) := (blk_cell BK181.out 9).trans rfl; have hfz48_0 := blk_frozen BK181.out 0; have hfz48_1 := blk_frozen BK181.out 1; have hfz48_2 := blk_frozen BK181.out 2; have hfz48_3 := blk_frozen BK181.out 3; have hfz48_4 := blk_frozen BK181.out 4; have hfz48_5 := blk_frozen BK181.out 5; have hfz48_6 := blk_frozen BK181.out 6; have hfz48_7 := blk_frozen BK181.out 7; have hfz48_8 := blk_frozen BK181.out 8; have hfz48_9 := blk_frozen BK181.out 9; have hnb49 := NB173_172.out; have hnc49 := NB172_173.out; have hnb50 := NB173_174.out; have hnc50 := NB174_173.out; have hcz51_0 : w44.cell? ⟨gb173, 0, none⟩ = some (.int .i64 x174000_2) := (blk_cell BK173.out 0).trans rfl; have hcz51_1 : w44.cell? ⟨gb173, 1, none⟩ = some (.int .i64 x174001_2) := (blk_cell BK173.out 1).trans rfl; have hcz51_2 : w44.cell? ⟨gb173, 2, none⟩ = some (.int .i64 x174002_2) := (blk_cell BK173.out 2).trans rfl; have hfz51_0 := blk_frozen BK173.out 0; have hfz51_1 := blk_frozen BK173.out 1; have hfz51_2 := blk_frozen BK173.out 2))
                        refine bodyPost_ret (results_ct rfl _ _ gb173 28 #[.int .i64 0, .int .i64 0, .int .i64 0] (0, 0) _ rfl (by (with_reducible repeat (first | refine blk_drewN ?_ _ | refine blk_drew ?_ | refine blk_alloc ?_ _)); refine blk_put (cs := #[.int .i64 0, .int .i64 0, .int .i64 x174002_2]) ?_ 2 _ rfl; (with_reducible repeat (first | refine blk_drewN ?_ _ | refine blk_drew ?_ | refine blk_alloc ?_ _)); refine blk_put (cs := #[.int .i64 0, .int .i64 x174001_2, .int .i64 x174002_2]) ?_ 1 _ rfl; (with_reducible repeat (first | refine blk_drewN ?_ _ | refine blk_drew ?_ | refine blk_alloc ?_ _)); refine blk_put (cs := #[.int .i64 x174000_2, .int .i64 x174001_2, .int .i64 x174002_2]) ?_ 0 _ rfl; (with_reducible repeat (first | refine blk_drewN ?_ _ | refine blk_drew ?_ | refine blk_alloc ?_ _)); refine blk_far ?_ NB173_181.out _; (with_reducible repeat (first | refine blk_drewN ?_ _ | refine blk_drew ?_ | refine blk_alloc ?_ _)); refine blk_far ?_ NB173_181.out _; (with_reducible repeat (first | refine blk_drewN ?_ _ | refine blk_drew ?_ | refine blk_alloc ?_ _)); refine blk_far ?_ NB173_181.out _; (with_reducible repeat (first | refine blk_drewN ?_ _ | refine blk_drew ?_ | refine blk_alloc ?_ _)); refine blk_far ?_ NB173_181.out _; (with_reducible repeat (first | refine blk_drewN ?_ _ | refine blk_drew ?_ | refine blk_alloc ?_ _)); refine blk_far ?_ NB173_181.out _; (with_reducible repeat (first | refine blk_drewN ?_ _ | refine blk_drew ?_ | refine blk_alloc ?_ _)); refine blk_far ?_ NB173_181.out _; (with_reducible repeat (first | refine blk_drewN ?_ _ | refine blk_drew ?_ | refine blk_alloc ?_ _)); refine blk_far ?_ NB173_181.out _; (with_reducible repeat (first | refine blk_drewN ?_ _ | refine blk_drew ?_ | refine blk_alloc ?_ _)); refine blk_far ?_ NB173_181.out _; (with_reducible repeat (first | refine blk_drewN ?_ _ | refine blk_drew ?_ | refine blk_alloc ?_ _)); refine blk_far ?_ NB173_181.out _; (with_reducible repeat (first | refine blk_drewN ?_ _ | refine blk_drew ?_ | refine blk_alloc ?_ _)); refine blk_far ?_ NB173_181.out _; (with_reducible repeat (first | refine blk_drewN ?_ _ | refine blk_drew ?_ | refine blk_alloc ?_ _)); exact BK173.out) Try.underlying28 rfl (by kernel_rfl)) rfl ?_
                        exact ⟨by first | rfl | (simp [errW_none, errW_some] <;> rfl) | (simp only [← hji36]; first | rfl | (simp [errW_none, errW_some] <;> rfl)) | (simp [*, errW_none, errW_some] <;> rfl), by repeat (first | (with_reducible first | exact HB.out | apply below_alloc | apply pw_below_drewN | apply below_drew1 | refine below_set ?_ GE172.out | refine below_set ?_ GE173.out | refine below_set ?_ GE174.out | refine below_set ?_ GE181.out) | exact HB.out)⟩
                      · rw [if_neg c43] at H
                        have c43b0 : decide (((rd_T58 y176 x51_2).f1) < 0) = false := decide_eq_false c43
                        clear c43
                        by_cases c52 : ((rd_T58 y176 x51_2).f1) > a3
                        · rw [if_pos c52] at H
                          have c52b0 : decide (a3 < ((rd_T58 y176 x51_2).f1)) = true := decide_eq_true c52
                          clear c52
                          simp only [Option.some.injEq, Prod.mk.injEq] at H
                          obtain ⟨rfl, rfl, rfl, rfl⟩ := H
                          have p180 : 0 ≤ (x51_2 : Int) := of_decide_eq_true (by first | (with_reducible assumption) | assumption)
                          have q180 : x51_2 < (y176.length : Int) := of_decide_eq_true (by first | (with_reducible assumption) | assumption)
                          obtain ⟨ad180, e180, hx180_0, hx180_1, hx180_2, hx180_3, hx180_4, hx180_5, hx180_6, hx180_7, hx180_8, hx180_9⟩ := at_T58 HR179.out x51_2 p180 q180
                          cases e180
                          replace hx180_0 := (HB.out.cell (World.block_lt_of_cell? w _ hx180_0)).trans hx180_0
                          replace hx180_1 := (HB.out.cell (World.block_lt_of_cell? w _ hx180_1)).trans hx180_1
                          replace hx180_2 := (HB.out.cell (World.block_lt_of_cell? w _ hx180_2)).trans hx180_2
                          replace hx180_3 := (HB.out.cell (World.block_lt_of_cell? w _ hx180_3)).trans hx180_3
                          replace hx180_4 := (HB.out.cell (World.block_lt_of_cell? w _ hx180_4)).trans hx180_4
                          replace hx180_5 := (HB.out.cell (World.block_lt_of_cell? w _ hx180_5)).trans hx180_5
                          replace hx180_6 := (HB.out.cell (World.block_lt_of_cell? w _ hx180_6)).trans hx180_6
                          replace hx180_7 := (HB.out.cell (World.block_lt_of_cell? w _ hx180_7)).trans hx180_7
                          replace hx180_8 := (HB.out.cell (World.block_lt_of_cell? w _ hx180_8)).trans hx180_8
                          replace hx180_9 := (HB.out.cell (World.block_lt_of_cell? w _ hx180_9)).trans hx180_9
                          replace p180 := eq_true p180
                          replace q180 := eq_true q180
                          go_wp2_with (first | ((with_reducible refine gate_dst (N := 14) rfl ?_); (try (refine gate_guard (by rfl) ?_; dsimp only)); refine box_event ?hg (N := 14) ?hd (cs := #[.string (⟨#[]⟩ : ByteArray), .string (⟨#[]⟩ : ByteArray), .int .i64 0, .int .i64 0, .int .i64 0, .int .i64 0, .int .i64 0, .int .i64 0, .int .i64 0, .bool false]) (t := 58) ?hr ?_; (case hd => rfl); (case hg => rfl); (case hr => first | (go_simp; done) | (go_simp; rfl)); intro gb181 hg w53 hbox hb; have n0_ := Aside0.mk (blk_below (g := gb172) (o := .cells #[.int .i64 a2_0, .int .i64 a2_1, .int .i64 a2_2] 52 (0, 0)) (by (with_reducible repeat (first | refine blk_drewN ?_ _ | refine blk_drew ?_ | refine blk_alloc ?_ _)); exact BK172.out) hb); have n1_ := Aside0.mk (blk_below (g := gb173) (o := .cells #[.int .i64 x174000_2, .int .i64 x174001_2, .int .i64 x174002_2] 28 (0, 0)) (by (with_reducible repeat (first | refine blk_drewN ?_ _ | refine blk_drew ?_ | refine blk_alloc ?_ _)); exact BK173.out) hb); have n2_ := Aside0.mk (blk_below (g := gb174) (o := .cells #[.int .i64 a2_1, .int .i64 a2_2] 71 (0, 0)) (by (with_reducible repeat (first | refine blk_drewN ?_ _ | refine blk_drew ?_ | refine blk_alloc ?_ _)); exact BK174.out) hb); have n3_ := Aside0.mk (below_step (by repeat (first | (with_reducible first | exact HB.out | apply below_alloc | apply pw_below_drewN | apply below_drew1 | refine below_set ?_ GE172.out | refine below_set ?_ GE173.out | refine below_set ?_ GE174.out) | exact HB.out)) hb); have n4_ := Aside0.mk (hbox); have n5_ := Aside0.mk ((by rw [hg]; exact (below_size (by repeat (first | (with_reducible first | exact HB.out | apply below_alloc | apply pw_below_drewN | apply below_drew1 | refine below_set ?_ GE172.out | refine below_set ?_ GE173.out | refine below_set ?_ GE174.out) | exact HB.out))) : w.heap.size ≤ gb181)); have n6_ := Aside0.mk ((by rw [hg]; exact (below_size (by repeat (first | (with_reducible first | exact HB.out | apply below_alloc | apply pw_below_drewN | apply below_drew1 | refine below_set ?_ GE172.out | refine below_set ?_ GE173.out | refine below_set ?_ GE174.out) | exact HB.out))) : w.heap.size ≤ gb181)); have n7_ := Aside0.mk ((by rw [hg]; exact Nat.ne_of_lt (blk_lt (g := gb172) (o := .cells #[.int .i64 a2_0, .int .i64 a2_1, .int .i64 a2_2] 52 (0, 0)) (by (with_reducible repeat (first | refine blk_drewN ?_ _ | refine blk_drew ?_ | refine blk_alloc ?_ _)); exact BK172.out)) : gb172 ≠ gb181)); have n8_ := Aside0.mk ((by rw [hg]; exact Nat.ne_of_gt (blk_lt (g := gb172) (o := .cells #[.int .i64 a2_0, .int .i64 a2_1, .int .i64 a2_2] 52 (0, 0)) (by (with_reducible repeat (first | refine blk_drewN ?_ _ | refine blk_drew ?_ | refine blk_alloc ?_ _)); exact BK172.out)) : gb181 ≠ gb172)); have n9_ := Aside0.mk ((by rw [hg]; exact Nat.ne_of_lt (blk_lt (g := gb173) (o := .cells #[.int .i64 x174000_2, .int .i64 x174001_2, .int .i64 x174002_2] 28 (0, 0)) (by (with_reducible repeat (first | refine blk_drewN ?_ _ | refine blk_drew ?_ | refine blk_alloc ?_ _)); exact BK173.out)) : gb173 ≠ gb181)); have n10_ := Aside0.mk ((by rw [hg]; exact Nat.ne_of_gt (blk_lt (g := gb173) (o := .cells #[.int .i64 x174000_2, .int .i64 x174001_2, .int .i64 x174002_2] 28 (0, 0)) (by (with_reducible repeat (first | refine blk_drewN ?_ _ | refine blk_drew ?_ | refine blk_alloc ?_ _)); exact BK173.out)) : gb181 ≠ gb173)); have n11_ := Aside0.mk ((by rw [hg]; exact Nat.ne_of_lt (blk_lt (g := gb174) (o := .cells #[.int .i64 a2_1, .int .i64 a2_2] 71 (0, 0)) (by (with_reducible repeat (first | refine blk_drewN ?_ _ | refine blk_drew ?_ | refine blk_alloc ?_ _)); exact BK174.out)) : gb174 ≠ gb181)); have n12_ := Aside0.mk ((by rw [hg]; exact Nat.ne_of_gt (blk_lt (g := gb174) (o := .cells #[.int .i64 a2_1, .int .i64 a2_2] 71 (0, 0)) (by (with_reducible repeat (first | refine blk_drewN ?_ _ | refine blk_drew ?_ | refine blk_alloc ?_ _)); exact BK174.out)) : gb181 ≠ gb174)); clear BK172; clear BK173; clear BK174; clear HB; have BK172 := n0_; have BK173 := n1_; have BK174 := n2_; have HB := n3_; have BK181 := n4_; have GW181 := n5_; have GE181 := n6_; have NB172_181 := n7_; have NB181_172 := n8_; have NB173_181 := n9_; have NB181_173 := n10_; have NB174_181 := n11_; have NB181_174 := n12_; clear n0_ n1_ n2_ n3_ n4_ n5_ n6_ n7_ n8_ n9_ n10_ n11_ n12_; clear hb hbox hg; have hnb54 := NB181_172.out; have hnc54 := NB172_181.out; have hnb55 := NB181_173.out; have hnc55 := NB173_181.out; have hnb56 := NB181_174.out; have hnc56 := NB174_181.out; have hcz57_0 : w53.cell? ⟨gb181, 0, none⟩ = some (.string (⟨#[]⟩ : ByteArray)) := (blk_cell BK181.out 0).trans rfl; have hcz57_1 : w53.cell? ⟨gb181, 1, none⟩ = some (.string (⟨#[]⟩ : ByteArray)) := (blk_cell BK181.out 1).trans rfl; have hcz57_2 : w53.cell? ⟨gb181, 2, none⟩ = some (.int .i64 0) := (blk_cell BK181.out 2).trans rfl; have hcz57_3 : w53.cell? ⟨gb181, 3, none⟩ = some (.int .i64 0) := (blk_cell BK181.out 3).trans rfl; have hcz57_4 : w53.cell? ⟨gb181, 4, none⟩ = some (.int .i64 0) := (blk_cell BK181.out 4).trans rfl; have hcz57_5 : w53.cell? ⟨gb181, 5, none⟩ = some (.int .i64 0) := (blk_cell BK181.out 5).trans rfl; have hcz57_6 : w53.cell? ⟨gb181, 6, none⟩ = some (.int .i64 0) := (blk_cell BK181.out 6).trans rfl; have hcz57_7 : w53.cell? ⟨gb181, 7, none⟩ = some (.int .i64 0) := (blk_cell BK181.out 7).trans rfl; have hcz57_8 : w53.cell? ⟨gb181, 8, none⟩ = some (.int .i64 0) := (blk_cell BK181.out 8).trans rfl; have hcz57_9 : w53.cell? ⟨gb181, 9, none⟩ = some (.bool false) := (blk_cell BK181.out 9).trans rfl; have hfz57_0 := blk_frozen BK181.out 0; have hfz57_1 := blk_frozen BK181.out 1; have hfz57_2 := blk_frozen BK181.out 2; have hfz57_3 := blk_frozen BK181.out 3; have hfz57_4 := blk_frozen BK181.out 4; have hfz57_5 := blk_frozen BK181.out 5; have hfz57_6 := blk_frozen BK181.out 6; have hfz57_7 := blk_frozen BK181.out 7; have hfz57_8 := blk_frozen BK181.out 8; have hfz57_9 := blk_frozen BK181.out 9; have hnb58 := NB173_172.out; have hnc58 := NB172_173.out; have hnb59 := NB173_174.out; have hnc59 := NB174_173.out; have hcz60_0 : w53.cell? ⟨gb173, 0, none⟩ = some (.int .i64 x174000_2) := (blk_cell BK173.out 0).trans rfl; have hcz60_1 : w53.cell? ⟨gb173, 1, none⟩ = some (.int .i64 x174001_2) := (blk_cell BK173.out 1).trans rfl; have hcz60_2 : w53.cell? ⟨gb173, 2, none⟩ = some (.int .i64 x174002_2) := (blk_cell BK173.out 2).trans rfl; have hfz60_0 := blk_frozen BK173.out 0; have hfz60_1 := blk_frozen BK173.out 1; have hfz60_2 := blk_frozen BK173.out 2))
                          refine bodyPost_ret (results_ct rfl _ _ gb173 28 #[.int .i64 0, .int .i64 0, .int .i64 0] (0, 0) _ rfl (by (with_reducible repeat (first | refine blk_drewN ?_ _ | refine blk_drew ?_ | refine blk_alloc ?_ _)); refine blk_put (cs := #[.int .i64 0, .int .i64 0, .int .i64 x174002_2]) ?_ 2 _ rfl; (with_reducible repeat (first | refine blk_drewN ?_ _ | refine blk_drew ?_ | refine blk_alloc ?_ _)); refine blk_put (cs := #[.int .i64 0, .int .i64 x174001_2, .int .i64 x174002_2]) ?_ 1 _ rfl; (with_reducible repeat (first | refine blk_drewN ?_ _ | refine blk_drew ?_ | refine blk_alloc ?_ _)); refine blk_put (cs := #[.int .i64 x174000_2, .int .i64 x174001_2, .int .i64 x174002_2]) ?_ 0 _ rfl; (with_reducible repeat (first | refine blk_drewN ?_ _ | refine blk_drew ?_ | refine blk_alloc ?_ _)); refine blk_far ?_ NB173_181.out _; (with_reducible repeat (first | refine blk_drewN ?_ _ | refine blk_drew ?_ | refine blk_alloc ?_ _)); refine blk_far ?_ NB173_181.out _; (with_reducible repeat (first | refine blk_drewN ?_ _ | refine blk_drew ?_ | refine blk_alloc ?_ _)); refine blk_far ?_ NB173_181.out _; (with_reducible repeat (first | refine blk_drewN ?_ _ | refine blk_drew ?_ | refine blk_alloc ?_ _)); refine blk_far ?_ NB173_181.out _; (with_reducible repeat (first | refine blk_drewN ?_ _ | refine blk_drew ?_ | refine blk_alloc ?_ _)); refine blk_far ?_ NB173_181.out _; (with_reducible repeat (first | refine blk_drewN ?_ _ | refine blk_drew ?_ | refine blk_alloc ?_ _)); refine blk_far ?_ NB173_181.out _; (with_reducible repeat (first | refine blk_drewN ?_ _ | refine blk_drew ?_ | refine blk_alloc ?_ _)); refine blk_far ?_ NB173_181.out _; (with_reducible repeat (first | refine blk_drewN ?_ _ | refine blk_drew ?_ | refine blk_alloc ?_ _)); refine blk_far ?_ NB173_181.out _; (with_reducible repeat (first | refine blk_drewN ?_ _ | refine blk_drew ?_ | refine blk_alloc ?_ _)); refine blk_far ?_ NB173_181.out _; (with_reducible repeat (first | refine blk_drewN ?_ _ | refine blk_drew ?_ | refine blk_alloc ?_ _)); refine blk_far ?_ NB173_181.out _; (with_reducible repeat (first | refine blk_drewN ?_ _ | refine blk_drew ?_ | refine blk_alloc ?_ _)); exact BK173.out) Try.underlying28 rfl (by kernel_rfl)) rfl ?_
                          exact ⟨by first | rfl | (simp [errW_none, errW_some] <;> rfl) | (simp only [← hji36]; first | rfl | (simp [errW_none, errW_some] <;> rfl)) | (simp [*, errW_none, errW_some] <;> rfl), by repeat (first | (with_reducible first | exact HB.out | apply below_alloc | apply pw_below_drewN | apply below_drew1 | refine below_set ?_ GE172.out | refine below_set ?_ GE173.out | refine below_set ?_ GE174.out | refine below_set ?_ GE181.out) | exact HB.out)⟩
                        · rw [if_neg c52] at H
                          have c52b0 : decide (a3 < ((rd_T58 y176 x51_2).f1)) = false := decide_eq_false c52
                          clear c52
                          have H' := Aside0.mk H
                          clear H
                          have p180 : 0 ≤ (x51_2 : Int) := of_decide_eq_true (by first | (with_reducible assumption) | assumption)
                          have q180 : x51_2 < (y176.length : Int) := of_decide_eq_true (by first | (with_reducible assumption) | assumption)
                          obtain ⟨ad180, e180, hx180_0, hx180_1, hx180_2, hx180_3, hx180_4, hx180_5, hx180_6, hx180_7, hx180_8, hx180_9⟩ := at_T58 HR179.out x51_2 p180 q180
                          cases e180
                          replace hx180_0 := (HB.out.cell (World.block_lt_of_cell? w _ hx180_0)).trans hx180_0
                          replace hx180_1 := (HB.out.cell (World.block_lt_of_cell? w _ hx180_1)).trans hx180_1
                          replace hx180_2 := (HB.out.cell (World.block_lt_of_cell? w _ hx180_2)).trans hx180_2
                          replace hx180_3 := (HB.out.cell (World.block_lt_of_cell? w _ hx180_3)).trans hx180_3
                          replace hx180_4 := (HB.out.cell (World.block_lt_of_cell? w _ hx180_4)).trans hx180_4
                          replace hx180_5 := (HB.out.cell (World.block_lt_of_cell? w _ hx180_5)).trans hx180_5
                          replace hx180_6 := (HB.out.cell (World.block_lt_of_cell? w _ hx180_6)).trans hx180_6
                          replace hx180_7 := (HB.out.cell (World.block_lt_of_cell? w _ hx180_7)).trans hx180_7
                          replace hx180_8 := (HB.out.cell (World.block_lt_of_cell? w _ hx180_8)).trans hx180_8
                          replace hx180_9 := (HB.out.cell (World.block_lt_of_cell? w _ hx180_9)).trans hx180_9
                          replace p180 := eq_true p180
                          replace q180 := eq_true q180
                          go_wp2_with (first | ((with_reducible refine gate_dst (N := 14) rfl ?_); (try (refine gate_guard (by rfl) ?_; dsimp only)); refine box_event ?hg (N := 14) ?hd (cs := #[.string (⟨#[]⟩ : ByteArray), .string (⟨#[]⟩ : ByteArray), .int .i64 0, .int .i64 0, .int .i64 0, .int .i64 0, .int .i64 0, .int .i64 0, .int .i64 0, .bool false]) (t := 58) ?hr ?_; (case hd => rfl); (case hg => rfl); (case hr => first | (go_simp; done) | (go_simp; rfl)); intro gb181 hg w61 hbox hb; have n0_ := Aside0.mk (blk_below (g := gb172) (o := .cells #[.int .i64 a2_0, .int .i64 a2_1, .int .i64 a2_2] 52 (0, 0)) (by (with_reducible repeat (first | refine blk_drewN ?_ _ | refine blk_drew ?_ | refine blk_alloc ?_ _)); exact BK172.out) hb); have n1_ := Aside0.mk (blk_below (g := gb173) (o := .cells #[.int .i64 x174000_2, .int .i64 x174001_2, .int .i64 x174002_2] 28 (0, 0)) (by (with_reducible repeat (first | refine blk_drewN ?_ _ | refine blk_drew ?_ | refine blk_alloc ?_ _)); exact BK173.out) hb); have n2_ := Aside0.mk (blk_below (g := gb174) (o := .cells #[.int .i64 a2_1, .int .i64 a2_2] 71 (0, 0)) (by (with_reducible repeat (first | refine blk_drewN ?_ _ | refine blk_drew ?_ | refine blk_alloc ?_ _)); exact BK174.out) hb); have n3_ := Aside0.mk (below_step (by repeat (first | (with_reducible first | exact HB.out | apply below_alloc | apply pw_below_drewN | apply below_drew1 | refine below_set ?_ GE172.out | refine below_set ?_ GE173.out | refine below_set ?_ GE174.out) | exact HB.out)) hb); have n4_ := Aside0.mk (hbox); have n5_ := Aside0.mk ((by rw [hg]; exact (below_size (by repeat (first | (with_reducible first | exact HB.out | apply below_alloc | apply pw_below_drewN | apply below_drew1 | refine below_set ?_ GE172.out | refine below_set ?_ GE173.out | refine below_set ?_ GE174.out) | exact HB.out))) : w.heap.size ≤ gb181)); have n6_ := Aside0.mk ((by rw [hg]; exact (below_size (by repeat (first | (with_reducible first | exact HB.out | apply below_alloc | apply pw_below_drewN | apply below_drew1 | refine below_set ?_ GE172.out | refine below_set ?_ GE173.out | refine below_set ?_ GE174.out) | exact HB.out))) : w.heap.size ≤ gb181)); have n7_ := Aside0.mk ((by rw [hg]; exact Nat.ne_of_lt (blk_lt (g := gb172) (o := .cells #[.int .i64 a2_0, .int .i64 a2_1, .int .i64 a2_2] 52 (0, 0)) (by (with_reducible repeat (first | refine blk_drewN ?_ _ | refine blk_drew ?_ | refine blk_alloc ?_ _)); exact BK172.out)) : gb172 ≠ gb181)); have n8_ := Aside0.mk ((by rw [hg]; exact Nat.ne_of_gt (blk_lt (g := gb172) (o := .cells #[.int .i64 a2_0, .int .i64 a2_1, .int .i64 a2_2] 52 (0, 0)) (by (with_reducible repeat (first | refine blk_drewN ?_ _ | refine blk_drew ?_ | refine blk_alloc ?_ _)); exact BK172.out)) : gb181 ≠ gb172)); have n9_ := Aside0.mk ((by rw [hg]; exact Nat.ne_of_lt (blk_lt (g := gb173) (o := .cells #[.int .i64 x174000_2, .int .i64 x174001_2, .int .i64 x174002_2] 28 (0, 0)) (by (with_reducible repeat (first | refine blk_drewN ?_ _ | refine blk_drew ?_ | refine blk_alloc ?_ _)); exact BK173.out)) : gb173 ≠ gb181)); have n10_ := Aside0.mk ((by rw [hg]; exact Nat.ne_of_gt (blk_lt (g := gb173) (o := .cells #[.int .i64 x174000_2, .int .i64 x174001_2, .int .i64 x174002_2] 28 (0, 0)) (by (with_reducible repeat (first | refine blk_drewN ?_ _ | refine blk_drew ?_ | refine blk_alloc ?_ _)); exact BK173.out)) : gb181 ≠ gb173)); have n11_ := Aside0.mk ((by rw [hg]; exact Nat.ne_of_lt (blk_lt (g := gb174) (o := .cells #[.int .i64 a2_1, .int .i64 a2_2] 71 (0, 0)) (by (with_reducible repeat (first | refine blk_drewN ?_ _ | refine blk_drew ?_ | refine blk_alloc ?_ _)); exact BK174.out)) : gb174 ≠ gb181)); have n12_ := Aside0.mk ((by rw [hg]; exact Nat.ne_of_gt (blk_lt (g := gb174) (o := .cells #[.int .i64 a2_1, .int .i64 a2_2] 71 (0, 0)) (by (with_reducible repeat (first | refine blk_drewN ?_ _ | refine blk_drew ?_ | refine blk_alloc ?_ _)); exact BK174.out)) : gb181 ≠ gb174)); clear BK172; clear BK173; clear BK174; clear HB; have BK172 := n0_; have BK173 := n1_; have BK174 := n2_; have HB := n3_; have BK181 := n4_; have GW181 := n5_; have GE181 := n6_; have NB172_181 := n7_; have NB181_172 := n8_; have NB173_181 := n9_; have NB181_173 := n10_; have NB174_181 := n11_; have NB181_174 := n12_; clear n0_ n1_ n2_ n3_ n4_ n5_ n6_ n7_ n8_ n9_ n10_ n11_ n12_; clear hb hbox hg; have hnb62 := NB181_172.out; have hnc62 := NB172_181.out; have hnb63 := NB181_173.out; have hnc63 := NB173_181.out; have hnb64 := NB181_174.out; have hnc64 := NB174_181.out; have hcz65_0 : w61.cell? ⟨gb181, 0, none⟩ = some (.string (⟨#[]⟩ : ByteArray)) := (blk_cell BK181.out 0).trans rfl; have hcz65_1 : w61.cell? ⟨gb181, 1, none⟩ = some (.string (⟨#[]⟩ : ByteArray)) := (blk_cell BK181.out 1).trans rfl; have hcz65_2 : w61.cell? ⟨gb181, 2, none⟩ = some (.int .i64 0) := (blk_cell BK181.out 2).trans rfl; have hcz65_3 : w61.cell? ⟨gb181, 3, none⟩ = some (.int .i64 0) := (blk_cell BK181.out 3).trans rfl; have hcz65_4 : w61.cell? ⟨gb181, 4, none⟩ = some (.int .i64 0) := (blk_cell BK181.out 4).trans rfl; have hcz65_5 : w61.cell? ⟨gb181, 5, none⟩ = some (.int .i64 0) := (blk_cell BK181.out 5).trans rfl; have hcz65_6 : w61.cell? ⟨gb181, 6, none⟩ = some (.int .i64 0) := (blk_cell BK181.out 6).trans rfl; have hcz65_7 : w61.cell? ⟨gb181, 7, none⟩ = some (.int .i64 0) := (blk_cell BK181.out 7).trans rfl; have hcz65_8 : w61.cell? ⟨gb181, 8, none⟩ = some (.int .i64 0) := (blk_cell BK181.out 8).trans rfl; have hcz65_9 : w61.cell? ⟨gb181, 9, none⟩ = some (.bool false) := (blk_cell BK181.out 9).trans rfl; have hfz65_0 := blk_frozen BK181.out 0; have hfz65_1 := blk_frozen BK181.out 1; have hfz65_2 := blk_frozen BK181.out 2; have hfz65_3 := blk_frozen BK181.out 3; have hfz65_4 := blk_frozen BK181.out 4; have hfz65_5 := blk_frozen BK181.out 5; have hfz65_6 := blk_frozen BK181.out 6; have hfz65_7 := blk_frozen BK181.out 7; have hfz65_8 := blk_frozen BK181.out 8; have hfz65_9 := blk_frozen BK181.out 9))
                          go_roundg k2
                          case measure => have := HJ5.out; have := HK2.out; omega
                          case rel => exact ⟨(wrap64 (x51_2 + 1)), (x174000_2), (x174001_2), (x174002_2), (by first | rfl | (simp; done) | (simp [*]; done) | exact congrArg (Value.int _) (by unfold wrap64; omega)), H', ⟨by have := HJ5.out; have := HK2.out; omega⟩, ⟨by (with_reducible repeat (first | refine blk_drewN ?_ _ | refine blk_drew ?_ | refine blk_alloc ?_ _)); refine blk_far ?_ NB172_181.out _; (with_reducible repeat (first | refine blk_drewN ?_ _ | refine blk_drew ?_ | refine blk_alloc ?_ _)); refine blk_far ?_ NB172_181.out _; (with_reducible repeat (first | refine blk_drewN ?_ _ | refine blk_drew ?_ | refine blk_alloc ?_ _)); refine blk_far ?_ NB172_181.out _; (with_reducible repeat (first | refine blk_drewN ?_ _ | refine blk_drew ?_ | refine blk_alloc ?_ _)); refine blk_far ?_ NB172_181.out _; (with_reducible repeat (first | refine blk_drewN ?_ _ | refine blk_drew ?_ | refine blk_alloc ?_ _)); refine blk_far ?_ NB172_181.out _; (with_reducible repeat (first | refine blk_drewN ?_ _ | refine blk_drew ?_ | refine blk_alloc ?_ _)); refine blk_far ?_ NB172_181.out _; (with_reducible repeat (first | refine blk_drewN ?_ _ | refine blk_drew ?_ | refine blk_alloc ?_ _)); refine blk_far ?_ NB172_181.out _; (with_reducible repeat (first | refine blk_drewN ?_ _ | refine blk_drew ?_ | refine blk_alloc ?_ _)); refine blk_far ?_ NB172_181.out _; (with_reducible repeat (first | refine blk_drewN ?_ _ | refine blk_drew ?_ | refine blk_alloc ?_ _)); refine blk_far ?_ NB172_181.out _; (with_reducible repeat (first | refine blk_drewN ?_ _ | refine blk_drew ?_ | refine blk_alloc ?_ _)); refine blk_far ?_ NB172_181.out _; (with_reducible repeat (first | refine blk_drewN ?_ _ | refine blk_drew ?_ | refine blk_alloc ?_ _)); exact BK172.out⟩, ⟨by (with_reducible repeat (first | refine blk_drewN ?_ _ | refine blk_drew ?_ | refine blk_alloc ?_ _)); refine blk_far ?_ NB173_181.out _; (with_reducible repeat (first | refine blk_drewN ?_ _ | refine blk_drew ?_ | refine blk_alloc ?_ _)); refine blk_far ?_ NB173_181.out _; (with_reducible repeat (first | refine blk_drewN ?_ _ | refine blk_drew ?_ | refine blk_alloc ?_ _)); refine blk_far ?_ NB173_181.out _; (with_reducible repeat (first | refine blk_drewN ?_ _ | refine blk_drew ?_ | refine blk_alloc ?_ _)); refine blk_far ?_ NB173_181.out _; (with_reducible repeat (first | refine blk_drewN ?_ _ | refine blk_drew ?_ | refine blk_alloc ?_ _)); refine blk_far ?_ NB173_181.out _; (with_reducible repeat (first | refine blk_drewN ?_ _ | refine blk_drew ?_ | refine blk_alloc ?_ _)); refine blk_far ?_ NB173_181.out _; (with_reducible repeat (first | refine blk_drewN ?_ _ | refine blk_drew ?_ | refine blk_alloc ?_ _)); refine blk_far ?_ NB173_181.out _; (with_reducible repeat (first | refine blk_drewN ?_ _ | refine blk_drew ?_ | refine blk_alloc ?_ _)); refine blk_far ?_ NB173_181.out _; (with_reducible repeat (first | refine blk_drewN ?_ _ | refine blk_drew ?_ | refine blk_alloc ?_ _)); refine blk_far ?_ NB173_181.out _; (with_reducible repeat (first | refine blk_drewN ?_ _ | refine blk_drew ?_ | refine blk_alloc ?_ _)); refine blk_far ?_ NB173_181.out _; (with_reducible repeat (first | refine blk_drewN ?_ _ | refine blk_drew ?_ | refine blk_alloc ?_ _)); exact BK173.out⟩, ⟨by (with_reducible repeat (first | refine blk_drewN ?_ _ | refine blk_drew ?_ | refine blk_alloc ?_ _)); refine blk_far ?_ NB174_181.out _; (with_reducible repeat (first | refine blk_drewN ?_ _ | refine blk_drew ?_ | refine blk_alloc ?_ _)); refine blk_far ?_ NB174_181.out _; (with_reducible repeat (first | refine blk_drewN ?_ _ | refine blk_drew ?_ | refine blk_alloc ?_ _)); refine blk_far ?_ NB174_181.out _; (with_reducible repeat (first | refine blk_drewN ?_ _ | refine blk_drew ?_ | refine blk_alloc ?_ _)); refine blk_far ?_ NB174_181.out _; (with_reducible repeat (first | refine blk_drewN ?_ _ | refine blk_drew ?_ | refine blk_alloc ?_ _)); refine blk_far ?_ NB174_181.out _; (with_reducible repeat (first | refine blk_drewN ?_ _ | refine blk_drew ?_ | refine blk_alloc ?_ _)); refine blk_far ?_ NB174_181.out _; (with_reducible repeat (first | refine blk_drewN ?_ _ | refine blk_drew ?_ | refine blk_alloc ?_ _)); refine blk_far ?_ NB174_181.out _; (with_reducible repeat (first | refine blk_drewN ?_ _ | refine blk_drew ?_ | refine blk_alloc ?_ _)); refine blk_far ?_ NB174_181.out _; (with_reducible repeat (first | refine blk_drewN ?_ _ | refine blk_drew ?_ | refine blk_alloc ?_ _)); refine blk_far ?_ NB174_181.out _; (with_reducible repeat (first | refine blk_drewN ?_ _ | refine blk_drew ?_ | refine blk_alloc ?_ _)); refine blk_far ?_ NB174_181.out _; (with_reducible repeat (first | refine blk_drewN ?_ _ | refine blk_drew ?_ | refine blk_alloc ?_ _)); exact BK174.out⟩, ⟨by repeat (first | (with_reducible first | exact HB.out | apply below_alloc | apply pw_below_drewN | apply below_drew1 | refine below_set ?_ GE172.out | refine below_set ?_ GE173.out | refine below_set ?_ GE174.out | refine below_set ?_ GE181.out) | exact HB.out)⟩⟩
                    · rw [if_neg c42] at H
                      exact absurd H (by simp)
                  · rw [if_neg c41] at H
                    exact absurd H (by simp)
                · rw [if_neg c40] at H
                  have c40b0 : decide (x51_2 < (y176.length : Int)) = false := decide_eq_false c40
                  clear c40
                  have HC66 := Aside0.mk H
                  clear H
                  go_upto_if 66 with (fail)
                  go_cut [15, 16] (fun v15 v16 wc => ∃ (kq : Nat) (x15_65 : Int) (x16_65 : Int), v15 = .int .i64 x15_65 ∧ v16 = .int .i64 x16_65 ∧ Aside0 (score_Of.j2 kq l0 a1 a3 x15_65 x16_65 a2_1 a2_2 = some (r1, r2, r3, r4)) ∧ Aside0 (kq ≤ k2) ∧ Aside0 (wc.heap[gb172]? = some (.cells #[.int .i64 a2_0, .int .i64 a2_1, .int .i64 a2_2] 52 (0, 0))) ∧ Aside0 (wc.heap[gb173]? = some (.cells #[.int .i64 x174000_2, .int .i64 x174001_2, .int .i64 x174002_2] 28 (0, 0))) ∧ Aside0 (wc.heap[gb174]? = some (.cells #[.int .i64 a2_1, .int .i64 a2_2] 71 (0, 0))) ∧ Aside0 (Below w.heap.size w wc))
                  case first =>
                    have H := HC66.out
                    clear HC66
                    by_cases c67 : a4 = true
                    · subst c67
                      have H1 : ((score_Predict.f k2 l0 a1 1 a3).bind fun t182 => ((score_Predict.f k2 l0 a1 2 a3).bind fun t183 => (score_Of.j2 k2 l0 a1 a3 t182 t183 a2_1 a2_2))) = some (r1, r2, r3, r4) := by rw [if_pos rfl] at H; exact H
                      clear H
                      have H := H1
                      clear H1
                      replace H := Option.bind_eq_some_iff.mp H
                      obtain ⟨t182, A680, H⟩ := H
                      replace H : ((score_Predict.f k2 l0 a1 2 a3).bind fun t183 => (score_Of.j2 k2 l0 a1 a3 t182 t183 a2_1 a2_2)) = some (r1, r2, r3, r4) := H
                      have A68 := Aside0.mk A680
                      clear A680
                      replace H := Option.bind_eq_some_iff.mp H
                      obtain ⟨t183, A690, H⟩ := H
                      replace H : (score_Of.j2 k2 l0 a1 a3 t182 t183 a2_1 a2_2) = some (r1, r2, r3, r4) := H
                      have A69 := Aside0.mk A690
                      clear A690
                      have H' := Aside0.mk H
                      clear H
                      go_wp2_with (first | ((with_reducible refine gate_callee (f := 34) rfl ?_); refine goesL_ (some 70) rfl rfl Try.func34 (by kernel_rfl) rfl #[.slice A0 l0.length c0, .int .i64 a1, .int .i64 1, .int .i64 a3] rfl (by (try simp only [List.map_toArray, List.map_cons, List.map_nil]); first | done | rfl | (simp only [List.length_drop, List.length_take]; rfl)) ?_; (with_reducible refine (score_Predict.calls k2 _ _ l0 a1 1 a3 t182 _ ?side1 ?side2 A68.out).mono ?_); (case side1 => repeat (first | exact (Kd.C_below HR0.out HB.out) | (with_reducible refine Kd.C_alloc ?_ _) | (with_reducible refine Kd.C_drewN ?_ _) | (with_reducible refine Kd.C_drew ?_))); (case side2 => exact HC0.out); rintro e w70 ⟨rfl, hb⟩; refine ⟨_, rfl, ?_⟩; have n0_ := Aside0.mk (blk_below (g := gb172) (o := .cells #[.int .i64 a2_0, .int .i64 a2_1, .int .i64 a2_2] 52 (0, 0)) (by (with_reducible repeat (first | refine blk_drewN ?_ _ | refine blk_drew ?_ | refine blk_alloc ?_ _)); exact BK172.out) hb); have n1_ := Aside0.mk (blk_below (g := gb173) (o := .cells #[.int .i64 x174000_2, .int .i64 x174001_2, .int .i64 x174002_2] 28 (0, 0)) (by (with_reducible repeat (first | refine blk_drewN ?_ _ | refine blk_drew ?_ | refine blk_alloc ?_ _)); exact BK173.out) hb); have n2_ := Aside0.mk (blk_below (g := gb174) (o := .cells #[.int .i64 a2_1, .int .i64 a2_2] 71 (0, 0)) (by (with_reducible repeat (first | refine blk_drewN ?_ _ | refine blk_drew ?_ | refine blk_alloc ?_ _)); exact BK174.out) hb); have n3_ := Aside0.mk (below_step (by repeat (first | (with_reducible first | exact HB.out | apply below_alloc | apply pw_below_drewN | apply below_drew1 | refine below_set ?_ GE172.out | refine below_set ?_ GE173.out | refine below_set ?_ GE174.out) | exact HB.out)) hb); clear BK172; clear BK173; clear BK174; clear HB; have BK172 := n0_; have BK173 := n1_; have BK174 := n2_; have HB := n3_; clear n0_ n1_ n2_ n3_; (try clear hb); (try clear hb2); (try clear hk); (try clear hi)) | ((with_reducible refine gate_callee (f := 34) rfl ?_); refine goesL_ (some 74) rfl rfl Try.func34 (by kernel_rfl) rfl #[.slice A0 l0.length c0, .int .i64 a1, .int .i64 2, .int .i64 a3] rfl (by (try simp only [List.map_toArray, List.map_cons, List.map_nil]); first | done | rfl | (simp only [List.length_drop, List.length_take]; rfl)) ?_; (with_reducible refine (score_Predict.calls k2 _ _ l0 a1 2 a3 t183 _ ?side1 ?side2 A69.out).mono ?_); (case side1 => repeat (first | exact (Kd.C_below HR0.out HB.out) | (with_reducible refine Kd.C_alloc ?_ _) | (with_reducible refine Kd.C_drewN ?_ _) | (with_reducible refine Kd.C_drew ?_))); (case side2 => exact HC0.out); rintro e w71 ⟨rfl, hb⟩; refine ⟨_, rfl, ?_⟩; have n0_ := Aside0.mk (blk_below (g := gb172) (o := .cells #[.int .i64 a2_0, .int .i64 a2_1, .int .i64 a2_2] 52 (0, 0)) (by (with_reducible repeat (first | refine blk_drewN ?_ _ | refine blk_drew ?_ | refine blk_alloc ?_ _)); exact BK172.out) hb); have n1_ := Aside0.mk (blk_below (g := gb173) (o := .cells #[.int .i64 x174000_2, .int .i64 x174001_2, .int .i64 x174002_2] 28 (0, 0)) (by (with_reducible repeat (first | refine blk_drewN ?_ _ | refine blk_drew ?_ | refine blk_alloc ?_ _)); exact BK173.out) hb); have n2_ := Aside0.mk (blk_below (g := gb174) (o := .cells #[.int .i64 a2_1, .int .i64 a2_2] 71 (0, 0)) (by (with_reducible repeat (first | refine blk_drewN ?_ _ | refine blk_drew ?_ | refine blk_alloc ?_ _)); exact BK174.out) hb); have n3_ := Aside0.mk (below_step (by repeat (first | (with_reducible first | exact HB.out | apply below_alloc | apply pw_below_drewN | apply below_drew1 | refine below_set ?_ GE172.out | refine below_set ?_ GE173.out | refine below_set ?_ GE174.out) | exact HB.out)) hb); clear BK172; clear BK173; clear BK174; clear HB; have BK172 := n0_; have BK173 := n1_; have BK174 := n2_; have HB := n3_; clear n0_ n1_ n2_ n3_; (try clear hb); (try clear hb2); (try clear hk); (try clear hi)))
                      go_meet
                      case rel => exact ⟨_, (t182), (t183), (by first | rfl | (simp; done) | (simp [*]; done) | exact congrArg (Value.int _) (by unfold wrap64; omega)), (by first | rfl | (simp; done) | (simp [*]; done) | exact congrArg (Value.int _) (by unfold wrap64; omega)), H', ⟨by have := HJ5.out; have := HK2.out; first | omega | exact Nat.le_refl _⟩, ⟨by (with_reducible repeat (first | refine blk_drewN ?_ _ | refine blk_drew ?_ | refine blk_alloc ?_ _)); exact BK172.out⟩, ⟨by (with_reducible repeat (first | refine blk_drewN ?_ _ | refine blk_drew ?_ | refine blk_alloc ?_ _)); exact BK173.out⟩, ⟨by (with_reducible repeat (first | refine blk_drewN ?_ _ | refine blk_drew ?_ | refine blk_alloc ?_ _)); exact BK174.out⟩, ⟨by repeat (first | (with_reducible first | exact HB.out | apply below_alloc | apply pw_below_drewN | apply below_drew1 | refine below_set ?_ GE172.out | refine below_set ?_ GE173.out | refine below_set ?_ GE174.out) | exact HB.out)⟩⟩
                    · replace c67 := Bool.eq_false_iff.mpr c67
                      subst c67
                      have H1 : (score_Of.j2 k2 l0 a1 a3 0 0 a2_1 a2_2) = some (r1, r2, r3, r4) := by rw [if_neg (show ¬ (false = true) by decide)] at H; exact H
                      clear H
                      have H := H1
                      clear H1
                      have H' := Aside0.mk H
                      clear H
                      go_wp2
                      go_meet
                      case rel => exact ⟨_, (0), (0), (by first | rfl | (simp; done) | (simp [*]; done) | exact congrArg (Value.int _) (by unfold wrap64; omega)), (by first | rfl | (simp; done) | (simp [*]; done) | exact congrArg (Value.int _) (by unfold wrap64; omega)), H', ⟨by have := HJ5.out; have := HK2.out; first | omega | exact Nat.le_refl _⟩, ⟨by (with_reducible repeat (first | refine blk_drewN ?_ _ | refine blk_drew ?_ | refine blk_alloc ?_ _)); exact BK172.out⟩, ⟨by (with_reducible repeat (first | refine blk_drewN ?_ _ | refine blk_drew ?_ | refine blk_alloc ?_ _)); exact BK173.out⟩, ⟨by (with_reducible repeat (first | refine blk_drewN ?_ _ | refine blk_drew ?_ | refine blk_alloc ?_ _)); exact BK174.out⟩, ⟨by repeat (first | (with_reducible first | exact HB.out | apply below_alloc | apply pw_below_drewN | apply below_drew1 | refine below_set ?_ GE172.out | refine below_set ?_ GE173.out | refine below_set ?_ GE174.out) | exact HB.out)⟩⟩
                  case rest =>
                    clear HC66
                    try clear c1
                    try clear p1
                    try clear q1
                    try clear hx1
                    try clear c2
                    try clear p2
                    try clear c3
                    try clear q3
                    try clear c4
                    try clear c5
                    try clear c6
                    try clear p6
                    try clear c9
                    try clear c12
                    try clear c13
                    try clear c15
                    try clear c15b0
                    try clear c16
                    try clear c16b0
                    try clear c18
                    try clear p18
                    try clear q18
                    try clear hx18
                    try clear c19
                    try clear c19b0
                    try clear c20
                    try clear c21
                    try clear c24
                    try clear c25
                    try clear c28
                    try clear c29
                    try clear c32
                    try clear c33
                    try clear c34
                    try clear c37
                    try clear c37b0
                    try clear c37b1
                    try clear c38
                    try clear c38b0
                    try clear c38b1
                    try clear q39
                    try clear c40
                    try clear c40b0
                    try clear c41
                    try clear c41b0
                    try clear c42
                    try clear c42b0
                    try clear c43
                    try clear c43b0
                    try clear c45
                    try clear c46
                    try clear c47
                    try clear c49
                    try clear c50
                    try clear c52
                    try clear c52b0
                    try clear c54
                    try clear c55
                    try clear c56
                    try clear c58
                    try clear c59
                    try clear c62
                    try clear c63
                    try clear c64
                    try clear p64
                    try clear c67
                    try clear hcz10_0
                    try clear hcz10_1
                    try clear hcz10_2
                    try clear hcz14_0
                    try clear hcz14_1
                    try clear hcz22_0
                    try clear hcz22_1
                    try clear hcz26_0
                    try clear hcz26_1
                    try clear hcz30_0
                    try clear hcz30_1
                    try clear hcz35_0
                    try clear hcz35_1
                    try clear hcz35_2
                    try clear hcz48_0
                    try clear hcz48_1
                    try clear hcz48_2
                    try clear hcz48_3
                    try clear hcz48_4
                    try clear hcz48_5
                    try clear hcz48_6
                    try clear hcz48_7
                    try clear hcz48_8
                    try clear hcz48_9
                    try clear hcz51_0
                    try clear hcz51_1
                    try clear hcz51_2
                    try clear hcz57_0
                    try clear hcz57_1
                    try clear hcz57_2
                    try clear hcz57_3
                    try clear hcz57_4
                    try clear hcz57_5
                    try clear hcz57_6
                    try clear hcz57_7
                    try clear hcz57_8
                    try clear hcz57_9
                    try clear hcz60_0
                    try clear hcz60_1
                    try clear hcz60_2
                    try clear hcz65_0
                    try clear hcz65_1
                    try clear hcz65_2
                    try clear hcz65_3
                    try clear hcz65_4
                    try clear hcz65_5
                    try clear hcz65_6
                    try clear hcz65_7
                    try clear hcz65_8
                    try clear hcz65_9
                    try clear hfz10_0
                    try clear hfz10_1
                    try clear hfz10_2
                    try clear hfz14_0
                    try clear hfz14_1
                    try clear hfz22_0
                    try clear hfz22_1
                    try clear hfz26_0
                    try clear hfz26_1
                    try clear hfz30_0
                    try clear hfz30_1
                    try clear hfz35_0
                    try clear hfz35_1
                    try clear hfz35_2
                    try clear hfz48_0
                    try clear hfz48_1
                    try clear hfz48_2
                    try clear hfz48_3
                    try clear hfz48_4
                    try clear hfz48_5
                    try clear hfz48_6
                    try clear hfz48_7
                    try clear hfz48_8
                    try clear hfz48_9
                    try clear hfz51_0
                    try clear hfz51_1
                    try clear hfz51_2
                    try clear hfz57_0
                    try clear hfz57_1
                    try clear hfz57_2
                    try clear hfz57_3
                    try clear hfz57_4
                    try clear hfz57_5
                    try clear hfz57_6
                    try clear hfz57_7
                    try clear hfz57_8
                    try clear hfz57_9
                    try clear hfz60_0
                    try clear hfz60_1
                    try clear hfz60_2
                    try clear hfz65_0
                    try clear hfz65_1
                    try clear hfz65_2
                    try clear hfz65_3
                    try clear hfz65_4
                    try clear hfz65_5
                    try clear hfz65_6
                    try clear hfz65_7
                    try clear hfz65_8
                    try clear hfz65_9
                    try clear hx180_0
                    try clear hx180_1
                    try clear hx180_2
                    try clear hx180_3
                    try clear hx180_4
                    try clear hx180_5
                    try clear hx180_6
                    try clear hx180_7
                    try clear hx180_8
                    try clear hx180_9
                    try clear p180
                    try clear p2
                    try clear p6
                    try clear q180
                    try clear q3
                    try clear q39
                    obtain ⟨kq, x15_65, x16_65, rfl, rfl, HA, HJ65, BK172, BK173, BK174, HB⟩ := hcut
                    cases kq with
                    | zero => exact absurd HA.out (by simp [score_Of.j2])
                    | succ kj65 =>
                      have H := HA.out
                      clear HA
                      simp only [score_Of.j2] at H
                      replace H := Option.bind_eq_some_iff.mp H
                      obtain ⟨t184, A720, H⟩ := H
                      replace H : ((score_weights_product.f a2_1 a2_2).bind fun t185 => ((score_weights_product.f a2_1 a2_2).bind fun t186 => ((score_weights_sum.f a2_1 a2_2).bind fun t187 => (if 0 ≤ a1 then (if a1 < (l0.length : Int) then (score_Of.j3 kj65 l0 a1 x15_65 x16_65 ((rd_T58 l0 a1).f1) a2_1 a2_2 (wrap64 (t184 * (wrap64 (x16_65 - x15_65)))) (wrap64 (t185 * a3)) (wrap64 (a3 * (wrap64 ((wrap64 (2 * t186)) + (wrap64 (t187 * (mx a2_1 a2_2)))))))) else (none)) else (none))))) = some (r1, r2, r3, r4) := H
                      have A72 := Aside0.mk A720
                      clear A720
                      replace H := Option.bind_eq_some_iff.mp H
                      obtain ⟨t185, A730, H⟩ := H
                      replace H : ((score_weights_product.f a2_1 a2_2).bind fun t186 => ((score_weights_sum.f a2_1 a2_2).bind fun t187 => (if 0 ≤ a1 then (if a1 < (l0.length : Int) then (score_Of.j3 kj65 l0 a1 x15_65 x16_65 ((rd_T58 l0 a1).f1) a2_1 a2_2 (wrap64 (t184 * (wrap64 (x16_65 - x15_65)))) (wrap64 (t185 * a3)) (wrap64 (a3 * (wrap64 ((wrap64 (2 * t186)) + (wrap64 (t187 * (mx a2_1 a2_2)))))))) else (none)) else (none)))) = some (r1, r2, r3, r4) := H
                      have A73 := Aside0.mk A730
                      clear A730
                      replace H := Option.bind_eq_some_iff.mp H
                      obtain ⟨t186, A740, H⟩ := H
                      replace H : ((score_weights_sum.f a2_1 a2_2).bind fun t187 => (if 0 ≤ a1 then (if a1 < (l0.length : Int) then (score_Of.j3 kj65 l0 a1 x15_65 x16_65 ((rd_T58 l0 a1).f1) a2_1 a2_2 (wrap64 (t184 * (wrap64 (x16_65 - x15_65)))) (wrap64 (t185 * a3)) (wrap64 (a3 * (wrap64 ((wrap64 (2 * t186)) + (wrap64 (t187 * (mx a2_1 a2_2)))))))) else (none)) else (none))) = some (r1, r2, r3, r4) := H
                      have A74 := Aside0.mk A740
                      clear A740
                      replace H := Option.bind_eq_some_iff.mp H
                      obtain ⟨t187, A750, H⟩ := H
                      replace H : (if 0 ≤ a1 then (if a1 < (l0.length : Int) then (score_Of.j3 kj65 l0 a1 x15_65 x16_65 ((rd_T58 l0 a1).f1) a2_1 a2_2 (wrap64 (t184 * (wrap64 (x16_65 - x15_65)))) (wrap64 (t185 * a3)) (wrap64 (a3 * (wrap64 ((wrap64 (2 * t186)) + (wrap64 (t187 * (mx a2_1 a2_2)))))))) else (none)) else (none)) = some (r1, r2, r3, r4) := H
                      have A75 := Aside0.mk A750
                      clear A750
                      obtain ⟨ji76, hji76⟩ : ∃ j_ : Int, (mx a2_1 a2_2) = j_ := ⟨_, rfl⟩
                      replace H : (if 0 ≤ a1 then (if a1 < (l0.length : Int) then (score_Of.j3 kj65 l0 a1 x15_65 x16_65 ((rd_T58 l0 a1).f1) a2_1 a2_2 (wrap64 (t184 * (wrap64 (x16_65 - x15_65)))) (wrap64 (t185 * a3)) (wrap64 (a3 * (wrap64 ((wrap64 (2 * t186)) + (wrap64 (t187 * (ji76)))))))) else (none)) else (none)) = some (r1, r2, r3, r4) := by first | (rw [hji76] at H; exact H) | (simp only [hji76] at H ⊢; exact H)
                      (try rw [hji76] at A72)
                      (try rw [hji76] at A73)
                      (try rw [hji76] at A74)
                      (try rw [hji76] at A75)
                      have hji76_ : (if a2_1 < a2_2 then a2_2 else a2_1) = ji76 := hji76
                      have HC77 := Aside0.mk H
                      clear H
                      try go_wp2
                      have n0_ := Aside0.mk (blk_drew BK172.out)
                      have n1_ := Aside0.mk (blk_drew BK173.out)
                      have n2_ := Aside0.mk (blk_drew BK174.out)
                      have n3_ := Aside0.mk (below_drew1 HB.out)
                      clear BK172
                      clear BK173
                      clear BK174
                      clear HB
                      have BK172 := n0_
                      have BK173 := n1_
                      have BK174 := n2_
                      have HB := n3_
                      clear n0_ n1_ n2_ n3_
                      refine start_ (n := 27) (S := fun w' => w'.cell? ⟨gb174, 0, none⟩ = some (.int .i64 a2_1) ∧ w'.cell? ⟨gb174, 1, none⟩ = some (.int .i64 a2_2)) (ds := []) #[false, false, false, false, false, false, false, false, false, false, false, false, false, false, false, false, false, false, false, false, false, false, false, false, false, false, false] (by kernel_rfl) rfl rfl ⟨(blk_cell BK174.out 0).trans rfl, (blk_cell BK174.out 1).trans rfl⟩ (fun hHeld => ?_); refine with_tabW score_Of.tab13 score_Of.bits13 (fun HT_ HW_ => ?_)
                      generalize wc.drew = w78 at BK172 BK173 BK174 HB hHeld ⊢
                      refine pure_ (i := 2) (N := some 77) (v := ?_) (a' := ?_) #[false, false, true, false, false, false, false, false, false, false, false, false, false, false, false, false, false, false, false, false, false, false, false, false, false, false, false] rfl rfl (any_of HT_.out (by kernel_rfl)) (fun _ _ _ h => h) (Or.inl ⟨by rfl, ?_⟩) ?_ ?_
                      rotate_left
                      · intro w'
                        go_simp
                        with_reducible rfl
                      rotate_left
                      · simp only [Act.put, List.setIfInBounds_toArray, List.set_cons_zero, List.set_cons_succ, i64_w, i32_w]
                        rfl
                      refine pure_ (i := 3) (N := some 78) (v := ?_) (a' := ?_) #[false, false, true, true, false, false, false, false, false, false, false, false, false, false, false, false, false, false, false, false, false, false, false, false, false, false, false] rfl rfl (any_of HT_.out (by kernel_rfl)) (fun _ _ _ h => h) (Or.inl ⟨by rfl, ?_⟩) ?_ ?_
                      rotate_left
                      · intro w'
                        go_simp
                        with_reducible rfl
                      rotate_left
                      · simp only [Act.put, List.setIfInBounds_toArray, List.set_cons_zero, List.set_cons_succ, i64_w, i32_w]
                        rfl
                      refine pure_ (i := 4) (N := some 79) (v := ?_) (a' := ?_) #[false, false, true, true, true, false, false, false, false, false, false, false, false, false, false, false, false, false, false, false, false, false, false, false, false, false, false] rfl rfl (any_of HT_.out (by kernel_rfl)) (fun _ _ _ h => h) (Or.inl ⟨by rfl, ?_⟩) ?_ ?_
                      rotate_left
                      · intro w'
                        go_simp
                        with_reducible rfl
                      rotate_left
                      · simp only [Act.put, List.setIfInBounds_toArray, List.set_cons_zero, List.set_cons_succ, i64_w, i32_w]
                        rfl
                      refine pure_ (i := 8) (N := some 83) (v := ?_) (a' := ?_) #[false, false, true, true, true, false, false, false, true, false, false, false, false, false, false, false, false, false, false, false, false, false, false, false, false, false, false] rfl rfl (any_of HT_.out (by kernel_rfl)) (fun _ _ _ h => h) (Or.inl ⟨by rfl, ?_⟩) ?_ ?_
                      rotate_left
                      · intro w'
                        go_simp
                        with_reducible rfl
                      rotate_left
                      · simp only [Act.put, List.setIfInBounds_toArray, List.set_cons_zero, List.set_cons_succ, i64_w, i32_w]
                        rfl
                      refine pure_ (i := 10) (N := some 85) (v := ?_) (a' := ?_) #[false, false, true, true, true, false, false, false, true, false, true, false, false, false, false, false, false, false, false, false, false, false, false, false, false, false, false] rfl rfl (any_of HT_.out (by kernel_rfl)) (fun _ _ _ h => h) (Or.inl ⟨by rfl, ?_⟩) ?_ ?_
                      rotate_left
                      · intro w'
                        go_simp
                        with_reducible rfl
                      rotate_left
                      · simp only [Act.put, List.setIfInBounds_toArray, List.set_cons_zero, List.set_cons_succ, i64_w, i32_w]
                        rfl
                      refine pure_ (i := 16) (N := some 91) (v := ?_) (a' := ?_) #[false, false, true, true, true, false, false, false, true, false, true, false, false, false, false, false, true, false, false, false, false, false, false, false, false, false, false] rfl rfl (any_of HT_.out (by kernel_rfl)) (fun _ _ _ h => h) (Or.inl ⟨by rfl, ?_⟩) ?_ ?_
                      rotate_left
                      · intro w'
                        go_simp
                        with_reducible rfl
                      rotate_left
                      · simp only [Act.put, List.setIfInBounds_toArray, List.set_cons_zero, List.set_cons_succ, i64_w, i32_w]
                        rfl
                      refine pure_ (i := 18) (N := some 93) (v := ?_) (a' := ?_) #[false, false, true, true, true, false, false, false, true, false, true, false, false, false, false, false, true, false, true, false, false, false, false, false, false, false, false] rfl rfl (any_of HT_.out (by kernel_rfl)) (fun _ _ _ h => h) (Or.inl ⟨by rfl, ?_⟩) ?_ ?_
                      rotate_left
                      · intro w'
                        go_simp
                        with_reducible rfl
                      rotate_left
                      · simp only [Act.put, List.setIfInBounds_toArray, List.set_cons_zero, List.set_cons_succ, i64_w, i32_w]
                        rfl
                      refine take_ (i := 0) (N := some 75) (v := ?_) (a' := ?_) #[true, false, true, true, true, false, false, false, true, false, true, false, false, false, false, false, true, false, true, false, false, false, false, false, false, false, false] rfl rfl (take_ofW HT_.out HW_.out (by kernel_rfl)) (fun _ _ _ h => h) (Or.inl ⟨by rfl, ?_⟩) hHeld ?_ ?_
                      rotate_left
                      · rintro w' ⟨s0, s1⟩
                        go_simp
                        with_reducible rfl
                      rotate_left
                      · simp only [Act.put, List.setIfInBounds_toArray, List.set_cons_zero, List.set_cons_succ, i64_w, i32_w]
                        rfl
                      refine take_ (i := 6) (N := some 81) (v := ?_) (a' := ?_) #[true, false, true, true, true, false, true, false, true, false, true, false, false, false, false, false, true, false, true, false, false, false, false, false, false, false, false] rfl rfl (take_ofW HT_.out HW_.out (by kernel_rfl)) (fun _ _ _ h => h) (Or.inl ⟨by rfl, ?_⟩) hHeld ?_ ?_
                      rotate_left
                      · rintro w' ⟨s0, s1⟩
                        go_simp
                        with_reducible rfl
                      rotate_left
                      · simp only [Act.put, List.setIfInBounds_toArray, List.set_cons_zero, List.set_cons_succ, i64_w, i32_w]
                        rfl
                      refine take_ (i := 11) (N := some 86) (v := ?_) (a' := ?_) #[true, false, true, true, true, false, true, false, true, false, true, true, false, false, false, false, true, false, true, false, false, false, false, false, false, false, false] rfl rfl (take_ofW HT_.out HW_.out (by kernel_rfl)) (fun _ _ _ h => h) (Or.inl ⟨by rfl, ?_⟩) hHeld ?_ ?_
                      rotate_left
                      · rintro w' ⟨s0, s1⟩
                        go_simp
                        with_reducible rfl
                      rotate_left
                      · simp only [Act.put, List.setIfInBounds_toArray, List.set_cons_zero, List.set_cons_succ, i64_w, i32_w]
                        rfl
                      refine take_ (i := 14) (N := some 89) (v := ?_) (a' := ?_) #[true, false, true, true, true, false, true, false, true, false, true, true, false, false, true, false, true, false, true, false, false, false, false, false, false, false, false] rfl rfl (take_ofW HT_.out HW_.out (by kernel_rfl)) (fun _ _ _ h => h) (Or.inl ⟨by rfl, ?_⟩) hHeld ?_ ?_
                      rotate_left
                      · rintro w' ⟨s0, s1⟩
                        go_simp
                        with_reducible rfl
                      rotate_left
                      · simp only [Act.put, List.setIfInBounds_toArray, List.set_cons_zero, List.set_cons_succ, i64_w, i32_w]
                        rfl
                      refine take_ (i := 17) (N := some 92) (v := ?_) (a' := ?_) #[true, false, true, true, true, false, true, false, true, false, true, true, false, false, true, false, true, true, true, false, false, false, false, false, false, false, false] rfl rfl (take_ofW HT_.out HW_.out (by kernel_rfl)) (fun _ _ _ h => h) (Or.inl ⟨by rfl, ?_⟩) hHeld ?_ ?_
                      rotate_left
                      · rintro w' ⟨s0, s1⟩
                        go_simp
                        with_reducible rfl
                      rotate_left
                      · simp only [Act.put, List.setIfInBounds_toArray, List.set_cons_zero, List.set_cons_succ, i64_w, i32_w]
                        rfl
                      refine take_ (i := 19) (N := some 94) (v := ?_) (a' := ?_) #[true, false, true, true, true, false, true, false, true, false, true, true, false, false, true, false, true, true, true, true, false, false, false, false, false, false, false] rfl rfl (take_ofW HT_.out HW_.out (by kernel_rfl)) (fun _ _ _ h => h) (Or.inl ⟨by rfl, ?_⟩) hHeld ?_ ?_
                      rotate_left
                      · rintro w' ⟨s0, s1⟩
                        go_simp
                        with_reducible rfl
                      rotate_left
                      · simp only [Act.put, List.setIfInBounds_toArray, List.set_cons_zero, List.set_cons_succ, i64_w, i32_w]
                        rfl
                      refine pure_ (i := 20) (N := some 95) (v := ?_) (a' := ?_) #[true, false, true, true, true, false, true, false, true, false, true, true, false, false, true, false, true, true, true, true, true, false, false, false, false, false, false] rfl rfl (any_of HT_.out (by kernel_rfl)) (fun _ _ _ h => h) (Or.inl ⟨by rfl, ?_⟩) ?_ ?_
                      rotate_left
                      · intro w'
                        go_simp
                        with_reducible rfl
                      rotate_left
                      · simp only [Act.put, List.setIfInBounds_toArray, List.set_cons_zero, List.set_cons_succ, i64_w, i32_w]
                        rfl
                      refine join_ (σ := Nat) 1 #[true, true, true, true, true, true, true, true, true, true, true, true, true, true, true, true, true, true, true, true, true, true, true, true, true, true, false] (fun s_ => [(76, .int .i64 t184), (82, .int .i64 t185), (87, .int .i64 t186), (90, .int .i64 t187), (17, .pointer (some ⟨s_, 0, none⟩)), (80, .int .i64 (wrap64 (t184 * (wrap64 (x16_65 - x15_65))))), (84, .int .i64 (wrap64 (t185 * a3))), (88, .int .i64 (wrap64 (2 * t186))), (96, .int .i64 (wrap64 (t187 * (ji76)))), (97, .int .i64 (wrap64 ((wrap64 (2 * t186)) + (wrap64 (t187 * (ji76)))))), (98, .int .i64 (wrap64 (a3 * (wrap64 ((wrap64 (2 * t186)) + (wrap64 (t187 * (ji76)))))))), (99, .agg #[.int .i64 (wrap64 (t184 * (wrap64 (x16_65 - x15_65)))), .int .i64 (wrap64 (t185 * a3)), .int .i64 (wrap64 (a3 * (wrap64 ((wrap64 (2 * t186)) + (wrap64 (t187 * (ji76)))))))])]) (fun s_ w' => (w'.cell? ⟨gb174, 0, none⟩ = some (.int .i64 a2_1) ∧ w'.cell? ⟨gb174, 1, none⟩ = some (.int .i64 a2_2)) ∧ (w'.heap[gb172]? = some (.cells #[.int .i64 a2_0, .int .i64 a2_1, .int .i64 a2_2] 52 (0, 0))) ∧ (w'.heap[gb173]? = some (.cells #[.int .i64 x174000_2, .int .i64 x174001_2, .int .i64 x174002_2] 28 (0, 0))) ∧ (w'.heap[gb174]? = some (.cells #[.int .i64 a2_1, .int .i64 a2_2] 71 (0, 0))) ∧ (w'.heap[s_]? = some (.cells #[.int .i64 0, .int .i64 0, .int .i64 0] 28 (0, 0))) ∧ (w.heap.size ≤ s_) ∧ (w.heap.size ≤ s_) ∧ (gb172 ≠ s_) ∧ (s_ ≠ gb172) ∧ (gb173 ≠ s_) ∧ (s_ ≠ gb173) ∧ (gb174 ≠ s_) ∧ (s_ ≠ gb174) ∧ (Below w.heap.size w w')) ?_ ?_
                      rotate_left
                      · intro hJ1_7_12_15_25
                        refine join_ (σ := Unit) 2 #[true, true, true, true, true, true, true, true, true, true, true, true, true, true, true, true, true, true, true, true, true, true, true, true, true, false, false] (fun s_ => [(76, .int .i64 t184), (82, .int .i64 t185), (87, .int .i64 t186), (90, .int .i64 t187), (80, .int .i64 (wrap64 (t184 * (wrap64 (x16_65 - x15_65))))), (84, .int .i64 (wrap64 (t185 * a3))), (88, .int .i64 (wrap64 (2 * t186))), (96, .int .i64 (wrap64 (t187 * (ji76)))), (97, .int .i64 (wrap64 ((wrap64 (2 * t186)) + (wrap64 (t187 * (ji76)))))), (98, .int .i64 (wrap64 (a3 * (wrap64 ((wrap64 (2 * t186)) + (wrap64 (t187 * (ji76)))))))), (99, .agg #[.int .i64 (wrap64 (t184 * (wrap64 (x16_65 - x15_65)))), .int .i64 (wrap64 (t185 * a3)), .int .i64 (wrap64 (a3 * (wrap64 ((wrap64 (2 * t186)) + (wrap64 (t187 * (ji76)))))))])]) (fun s_ w' => (w'.cell? ⟨gb174, 0, none⟩ = some (.int .i64 a2_1) ∧ w'.cell? ⟨gb174, 1, none⟩ = some (.int .i64 a2_2)) ∧ (w'.heap[gb172]? = some (.cells #[.int .i64 a2_0, .int .i64 a2_1, .int .i64 a2_2] 52 (0, 0))) ∧ (w'.heap[gb173]? = some (.cells #[.int .i64 x174000_2, .int .i64 x174001_2, .int .i64 x174002_2] 28 (0, 0))) ∧ (w'.heap[gb174]? = some (.cells #[.int .i64 a2_1, .int .i64 a2_2] 71 (0, 0))) ∧ (Below w.heap.size w w')) ?_ ?_
                        rotate_left
                        · intro hJ1_7_12_15
                          refine join_ (σ := Nat) 6 #[true, true, true, true, true, true, true, true, true, true, true, true, true, true, true, false, true, true, true, true, true, false, false, false, false, true, false] (fun s_ => [(76, .int .i64 t184), (82, .int .i64 t185), (87, .int .i64 t186), (17, .pointer (some ⟨s_, 0, none⟩)), (80, .int .i64 (wrap64 (t184 * (wrap64 (x16_65 - x15_65))))), (84, .int .i64 (wrap64 (t185 * a3))), (88, .int .i64 (wrap64 (2 * t186)))]) (fun s_ w' => (w'.cell? ⟨gb174, 0, none⟩ = some (.int .i64 a2_1) ∧ w'.cell? ⟨gb174, 1, none⟩ = some (.int .i64 a2_2)) ∧ (w'.heap[gb172]? = some (.cells #[.int .i64 a2_0, .int .i64 a2_1, .int .i64 a2_2] 52 (0, 0))) ∧ (w'.heap[gb173]? = some (.cells #[.int .i64 x174000_2, .int .i64 x174001_2, .int .i64 x174002_2] 28 (0, 0))) ∧ (w'.heap[gb174]? = some (.cells #[.int .i64 a2_1, .int .i64 a2_2] 71 (0, 0))) ∧ (w'.heap[s_]? = some (.cells #[.int .i64 0, .int .i64 0, .int .i64 0] 28 (0, 0))) ∧ (w.heap.size ≤ s_) ∧ (w.heap.size ≤ s_) ∧ (gb172 ≠ s_) ∧ (s_ ≠ gb172) ∧ (gb173 ≠ s_) ∧ (s_ ≠ gb173) ∧ (gb174 ≠ s_) ∧ (s_ ≠ gb174) ∧ (Below w.heap.size w w')) ?_ ?_
                          rotate_left
                          · intro hJ1_7_12_25
                            refine join_ (σ := Unit) 7 #[true, true, true, true, true, true, true, true, true, true, true, true, true, true, true, false, true, true, true, true, true, false, false, false, false, false, false] (fun s_ => [(76, .int .i64 t184), (82, .int .i64 t185), (87, .int .i64 t186), (80, .int .i64 (wrap64 (t184 * (wrap64 (x16_65 - x15_65))))), (84, .int .i64 (wrap64 (t185 * a3))), (88, .int .i64 (wrap64 (2 * t186)))]) (fun s_ w' => (w'.cell? ⟨gb174, 0, none⟩ = some (.int .i64 a2_1) ∧ w'.cell? ⟨gb174, 1, none⟩ = some (.int .i64 a2_2)) ∧ (w'.heap[gb172]? = some (.cells #[.int .i64 a2_0, .int .i64 a2_1, .int .i64 a2_2] 52 (0, 0))) ∧ (w'.heap[gb173]? = some (.cells #[.int .i64 x174000_2, .int .i64 x174001_2, .int .i64 x174002_2] 28 (0, 0))) ∧ (w'.heap[gb174]? = some (.cells #[.int .i64 a2_1, .int .i64 a2_2] 71 (0, 0))) ∧ (Below w.heap.size w w')) ?_ ?_
                            rotate_left
                            · intro hJ1_7_12
                              refine join_ (σ := Nat) 8 #[true, true, true, true, true, true, true, true, true, true, true, true, false, false, true, false, true, true, true, true, true, false, false, false, false, true, false] (fun s_ => [(76, .int .i64 t184), (82, .int .i64 t185), (17, .pointer (some ⟨s_, 0, none⟩)), (80, .int .i64 (wrap64 (t184 * (wrap64 (x16_65 - x15_65))))), (84, .int .i64 (wrap64 (t185 * a3)))]) (fun s_ w' => (w'.cell? ⟨gb174, 0, none⟩ = some (.int .i64 a2_1) ∧ w'.cell? ⟨gb174, 1, none⟩ = some (.int .i64 a2_2)) ∧ (w'.heap[gb172]? = some (.cells #[.int .i64 a2_0, .int .i64 a2_1, .int .i64 a2_2] 52 (0, 0))) ∧ (w'.heap[gb173]? = some (.cells #[.int .i64 x174000_2, .int .i64 x174001_2, .int .i64 x174002_2] 28 (0, 0))) ∧ (w'.heap[gb174]? = some (.cells #[.int .i64 a2_1, .int .i64 a2_2] 71 (0, 0))) ∧ (w'.heap[s_]? = some (.cells #[.int .i64 0, .int .i64 0, .int .i64 0] 28 (0, 0))) ∧ (w.heap.size ≤ s_) ∧ (w.heap.size ≤ s_) ∧ (gb172 ≠ s_) ∧ (s_ ≠ gb172) ∧ (gb173 ≠ s_) ∧ (s_ ≠ gb173) ∧ (gb174 ≠ s_) ∧ (s_ ≠ gb174) ∧ (Below w.heap.size w w')) ?_ ?_
                              rotate_left
                              · intro hJ1_7_25
                                refine join_ (σ := Unit) 9 #[true, true, true, true, true, true, true, true, true, true, true, true, false, false, true, false, true, true, true, true, true, false, false, false, false, false, false] (fun s_ => [(76, .int .i64 t184), (82, .int .i64 t185), (80, .int .i64 (wrap64 (t184 * (wrap64 (x16_65 - x15_65))))), (84, .int .i64 (wrap64 (t185 * a3)))]) (fun s_ w' => (w'.cell? ⟨gb174, 0, none⟩ = some (.int .i64 a2_1) ∧ w'.cell? ⟨gb174, 1, none⟩ = some (.int .i64 a2_2)) ∧ (w'.heap[gb172]? = some (.cells #[.int .i64 a2_0, .int .i64 a2_1, .int .i64 a2_2] 52 (0, 0))) ∧ (w'.heap[gb173]? = some (.cells #[.int .i64 x174000_2, .int .i64 x174001_2, .int .i64 x174002_2] 28 (0, 0))) ∧ (w'.heap[gb174]? = some (.cells #[.int .i64 a2_1, .int .i64 a2_2] 71 (0, 0))) ∧ (Below w.heap.size w w')) ?_ ?_
                                rotate_left
                                · intro hJ1_7
                                  refine join_ (σ := Nat) 10 #[true, true, true, true, true, true, true, false, true, false, true, true, false, false, true, false, true, true, true, true, true, false, false, false, false, true, false] (fun s_ => [(76, .int .i64 t184), (17, .pointer (some ⟨s_, 0, none⟩)), (80, .int .i64 (wrap64 (t184 * (wrap64 (x16_65 - x15_65)))))]) (fun s_ w' => (w'.cell? ⟨gb174, 0, none⟩ = some (.int .i64 a2_1) ∧ w'.cell? ⟨gb174, 1, none⟩ = some (.int .i64 a2_2)) ∧ (w'.heap[gb172]? = some (.cells #[.int .i64 a2_0, .int .i64 a2_1, .int .i64 a2_2] 52 (0, 0))) ∧ (w'.heap[gb173]? = some (.cells #[.int .i64 x174000_2, .int .i64 x174001_2, .int .i64 x174002_2] 28 (0, 0))) ∧ (w'.heap[gb174]? = some (.cells #[.int .i64 a2_1, .int .i64 a2_2] 71 (0, 0))) ∧ (w'.heap[s_]? = some (.cells #[.int .i64 0, .int .i64 0, .int .i64 0] 28 (0, 0))) ∧ (w.heap.size ≤ s_) ∧ (w.heap.size ≤ s_) ∧ (gb172 ≠ s_) ∧ (s_ ≠ gb172) ∧ (gb173 ≠ s_) ∧ (s_ ≠ gb173) ∧ (gb174 ≠ s_) ∧ (s_ ≠ gb174) ∧ (Below w.heap.size w w')) ?_ ?_
                                  rotate_left
                                  · intro hJ1_25
                                    refine join_ (σ := Unit) 11 #[true, true, true, true, true, true, true, false, true, false, true, true, false, false, true, false, true, true, true, true, true, false, false, false, false, false, false] (fun s_ => [(76, .int .i64 t184), (80, .int .i64 (wrap64 (t184 * (wrap64 (x16_65 - x15_65)))))]) (fun s_ w' => (w'.cell? ⟨gb174, 0, none⟩ = some (.int .i64 a2_1) ∧ w'.cell? ⟨gb174, 1, none⟩ = some (.int .i64 a2_2)) ∧ (w'.heap[gb172]? = some (.cells #[.int .i64 a2_0, .int .i64 a2_1, .int .i64 a2_2] 52 (0, 0))) ∧ (w'.heap[gb173]? = some (.cells #[.int .i64 x174000_2, .int .i64 x174001_2, .int .i64 x174002_2] 28 (0, 0))) ∧ (w'.heap[gb174]? = some (.cells #[.int .i64 a2_1, .int .i64 a2_2] 71 (0, 0))) ∧ (Below w.heap.size w w')) ?_ ?_
                                    rotate_left
                                    · intro hJ1
                                      refine join_ (σ := Nat) 12 #[true, false, true, true, true, false, true, false, true, false, true, true, false, false, true, false, true, true, true, true, true, false, false, false, false, true, false] (fun s_ => [(17, .pointer (some ⟨s_, 0, none⟩))]) (fun s_ w' => (w'.cell? ⟨gb174, 0, none⟩ = some (.int .i64 a2_1) ∧ w'.cell? ⟨gb174, 1, none⟩ = some (.int .i64 a2_2)) ∧ (w'.heap[gb172]? = some (.cells #[.int .i64 a2_0, .int .i64 a2_1, .int .i64 a2_2] 52 (0, 0))) ∧ (w'.heap[gb173]? = some (.cells #[.int .i64 x174000_2, .int .i64 x174001_2, .int .i64 x174002_2] 28 (0, 0))) ∧ (w'.heap[gb174]? = some (.cells #[.int .i64 a2_1, .int .i64 a2_2] 71 (0, 0))) ∧ (w'.heap[s_]? = some (.cells #[.int .i64 0, .int .i64 0, .int .i64 0] 28 (0, 0))) ∧ (w.heap.size ≤ s_) ∧ (w.heap.size ≤ s_) ∧ (gb172 ≠ s_) ∧ (s_ ≠ gb172) ∧ (gb173 ≠ s_) ∧ (s_ ≠ gb173) ∧ (gb174 ≠ s_) ∧ (s_ ≠ gb174) ∧ (Below w.heap.size w w')) ?_ ?_
                                      rotate_left
                                      · intro hJ25
                                        refine two_ (i := 1) (j := 25) (Ni := some 76) (Nj := some 17) #[true, true, true, true, true, false, true, false, true, false, true, true, false, false, true, false, true, true, true, true, true, false, false, false, false, false, false] #[true, false, true, true, true, false, true, false, true, false, true, true, false, false, true, false, true, true, true, true, true, false, false, false, false, true, false] rfl rfl rfl rfl (two_of HT_.out (by kernel_rfl)) (by decide) (by decide) (fun K hK => ?_) (fun K hK => ?_)
                                        · skip
                                          refine goes_ Try.func35 (by kernel_rfl) rfl #[.agg #[.int .i64 a2_1, .int .i64 a2_2]] (by rfl) rfl rfl (by (try simp only [List.map_toArray, List.map_cons, List.map_nil]); first | done | rfl | (simp only [List.length_drop, List.length_take]; rfl)) ?_
                                          with_reducible refine (score_weights_product.calls a2_1 a2_2 t184 _ A72.out).mono ?_
                                          rintro e w79 ⟨rfl, hb⟩
                                          refine ⟨_, rfl, ?_⟩
                                          have n0_ := Aside0.mk (blk_below (g := gb172) (o := .cells #[.int .i64 a2_0, .int .i64 a2_1, .int .i64 a2_2] 52 (0, 0)) (by (with_reducible repeat (first | refine blk_drewN ?_ _ | refine blk_drew ?_ | refine blk_alloc ?_ _)); exact BK172.out) hb)
                                          have n1_ := Aside0.mk (blk_below (g := gb173) (o := .cells #[.int .i64 x174000_2, .int .i64 x174001_2, .int .i64 x174002_2] 28 (0, 0)) (by (with_reducible repeat (first | refine blk_drewN ?_ _ | refine blk_drew ?_ | refine blk_alloc ?_ _)); exact BK173.out) hb)
                                          have n2_ := Aside0.mk (blk_below (g := gb174) (o := .cells #[.int .i64 a2_1, .int .i64 a2_2] 71 (0, 0)) (by (with_reducible repeat (first | refine blk_drewN ?_ _ | refine blk_drew ?_ | refine blk_alloc ?_ _)); exact BK174.out) hb)
                                          have n3_ := Aside0.mk (below_step (by repeat (first | (with_reducible first | exact HB.out | apply below_alloc | apply pw_below_drewN | apply below_drew1 | refine below_set ?_ GE172.out | refine below_set ?_ GE173.out | refine below_set ?_ GE174.out) | exact HB.out)) hb)
                                          clear BK172
                                          clear BK173
                                          clear BK174
                                          clear HB
                                          have BK172 := n0_
                                          have BK173 := n1_
                                          have BK174 := n2_
                                          have HB := n3_
                                          clear n0_ n1_ n2_ n3_
                                          (try clear hb)
                                          (try clear hb2)
                                          (try clear hk)
                                          (try clear hi)
                                          refine hK.out _ _ ⟨(blk_cell BK174.out 0).trans rfl, (blk_cell BK174.out 1).trans rfl⟩ (fun hHeld => ?_)
                                          clear hK K
                                          refine norm_ (a' := ?_) ?_ ?_
                                          rotate_left
                                          · show Act.put _ (some 76) _ = _
                                            simp only [Act.put, List.setIfInBounds_toArray, List.set_cons_zero, List.set_cons_succ, i64_w, i32_w]
                                            rfl
                                          refine pure_ (i := 5) (N := some 80) (v := ?_) (a' := ?_) #[true, true, true, true, true, true, true, false, true, false, true, true, false, false, true, false, true, true, true, true, true, false, false, false, false, false, false] rfl rfl (any_of HT_.out (by kernel_rfl)) (fun _ _ _ h => h) (Or.inl ⟨by rfl, ?_⟩) ?_ ?_
                                          rotate_left
                                          · intro w'
                                            go_simp
                                            with_reducible rfl
                                          rotate_left
                                          · simp only [Act.put, List.setIfInBounds_toArray, List.set_cons_zero, List.set_cons_succ, i64_w, i32_w]
                                            rfl
                                          exact norm_ (by first | (simp only [putAll, Act.put, List.setIfInBounds_toArray, List.set_cons_zero, List.set_cons_succ]; done) | (simp only [putAll, Act.put, List.setIfInBounds_toArray, List.set_cons_zero, List.set_cons_succ]; rfl)) (hJ1 () _ ⟨hHeld, (by (with_reducible repeat (first | refine blk_drewN ?_ _ | refine blk_drew ?_ | refine blk_alloc ?_ _)); exact BK172.out), (by (with_reducible repeat (first | refine blk_drewN ?_ _ | refine blk_drew ?_ | refine blk_alloc ?_ _)); exact BK173.out), (by (with_reducible repeat (first | refine blk_drewN ?_ _ | refine blk_drew ?_ | refine blk_alloc ?_ _)); exact BK174.out), (by repeat (first | (with_reducible first | exact HB.out | apply below_alloc | apply pw_below_drewN | apply below_drew1 | refine below_set ?_ GE172.out | refine below_set ?_ GE173.out | refine below_set ?_ GE174.out) | exact HB.out))⟩)
                                        · skip
                                          refine box_step ?hg (N := 17) ?hd (cs := #[.int .i64 0, .int .i64 0, .int .i64 0]) (t := 28) ?hr ?_; (case hd => rfl); (case hg => rfl); (case hr => first | (go_simp; done) | (go_simp; rfl))
                                          intro gb188 hg w79 hbox hb
                                          have n0_ := Aside0.mk (blk_below (g := gb172) (o := .cells #[.int .i64 a2_0, .int .i64 a2_1, .int .i64 a2_2] 52 (0, 0)) (by (with_reducible repeat (first | refine blk_drewN ?_ _ | refine blk_drew ?_ | refine blk_alloc ?_ _)); exact BK172.out) hb)
                                          have n1_ := Aside0.mk (blk_below (g := gb173) (o := .cells #[.int .i64 x174000_2, .int .i64 x174001_2, .int .i64 x174002_2] 28 (0, 0)) (by (with_reducible repeat (first | refine blk_drewN ?_ _ | refine blk_drew ?_ | refine blk_alloc ?_ _)); exact BK173.out) hb)
                                          have n2_ := Aside0.mk (blk_below (g := gb174) (o := .cells #[.int .i64 a2_1, .int .i64 a2_2] 71 (0, 0)) (by (with_reducible repeat (first | refine blk_drewN ?_ _ | refine blk_drew ?_ | refine blk_alloc ?_ _)); exact BK174.out) hb)
                                          have n3_ := Aside0.mk (below_step (by repeat (first | (with_reducible first | exact HB.out | apply below_alloc | apply pw_below_drewN | apply below_drew1 | refine below_set ?_ GE172.out | refine below_set ?_ GE173.out | refine below_set ?_ GE174.out) | exact HB.out)) hb)
                                          have n4_ := Aside0.mk (hbox)
                                          have n5_ := Aside0.mk ((by rw [hg]; exact (below_size (by repeat (first | (with_reducible first | exact HB.out | apply below_alloc | apply pw_below_drewN | apply below_drew1 | refine below_set ?_ GE172.out | refine below_set ?_ GE173.out | refine below_set ?_ GE174.out) | exact HB.out))) : w.heap.size ≤ gb188))
                                          have n6_ := Aside0.mk ((by rw [hg]; exact (below_size (by repeat (first | (with_reducible first | exact HB.out | apply below_alloc | apply pw_below_drewN | apply below_drew1 | refine below_set ?_ GE172.out | refine below_set ?_ GE173.out | refine below_set ?_ GE174.out) | exact HB.out))) : w.heap.size ≤ gb188))
                                          have n7_ := Aside0.mk ((by rw [hg]; exact Nat.ne_of_lt (blk_lt (g := gb172) (o := .cells #[.int .i64 a2_0, .int .i64 a2_1, .int .i64 a2_2] 52 (0, 0)) (by (with_reducible repeat (first | refine blk_drewN ?_ _ | refine blk_drew ?_ | refine blk_alloc ?_ _)); exact BK172.out)) : gb172 ≠ gb188))
                                          have n8_ := Aside0.mk ((by rw [hg]; exact Nat.ne_of_gt (blk_lt (g := gb172) (o := .cells #[.int .i64 a2_0, .int .i64 a2_1, .int .i64 a2_2] 52 (0, 0)) (by (with_reducible repeat (first | refine blk_drewN ?_ _ | refine blk_drew ?_ | refine blk_alloc ?_ _)); exact BK172.out)) : gb188 ≠ gb172))
                                          have n9_ := Aside0.mk ((by rw [hg]; exact Nat.ne_of_lt (blk_lt (g := gb173) (o := .cells #[.int .i64 x174000_2, .int .i64 x174001_2, .int .i64 x174002_2] 28 (0, 0)) (by (with_reducible repeat (first | refine blk_drewN ?_ _ | refine blk_drew ?_ | refine blk_alloc ?_ _)); exact BK173.out)) : gb173 ≠ gb188))
                                          have n10_ := Aside0.mk ((by rw [hg]; exact Nat.ne_of_gt (blk_lt (g := gb173) (o := .cells #[.int .i64 x174000_2, .int .i64 x174001_2, .int .i64 x174002_2] 28 (0, 0)) (by (with_reducible repeat (first | refine blk_drewN ?_ _ | refine blk_drew ?_ | refine blk_alloc ?_ _)); exact BK173.out)) : gb188 ≠ gb173))
                                          have n11_ := Aside0.mk ((by rw [hg]; exact Nat.ne_of_lt (blk_lt (g := gb174) (o := .cells #[.int .i64 a2_1, .int .i64 a2_2] 71 (0, 0)) (by (with_reducible repeat (first | refine blk_drewN ?_ _ | refine blk_drew ?_ | refine blk_alloc ?_ _)); exact BK174.out)) : gb174 ≠ gb188))
                                          have n12_ := Aside0.mk ((by rw [hg]; exact Nat.ne_of_gt (blk_lt (g := gb174) (o := .cells #[.int .i64 a2_1, .int .i64 a2_2] 71 (0, 0)) (by (with_reducible repeat (first | refine blk_drewN ?_ _ | refine blk_drew ?_ | refine blk_alloc ?_ _)); exact BK174.out)) : gb188 ≠ gb174))
                                          clear BK172
                                          clear BK173
                                          clear BK174
                                          clear HB
                                          have BK172 := n0_
                                          have BK173 := n1_
                                          have BK174 := n2_
                                          have HB := n3_
                                          have BK188 := n4_
                                          have GW188 := n5_
                                          have GE188 := n6_
                                          have NB172_188 := n7_
                                          have NB188_172 := n8_
                                          have NB173_188 := n9_
                                          have NB188_173 := n10_
                                          have NB174_188 := n11_
                                          have NB188_174 := n12_
                                          clear n0_ n1_ n2_ n3_ n4_ n5_ n6_ n7_ n8_ n9_ n10_ n11_ n12_
                                          clear hb hbox hg
                                          refine hK.out _ _ ⟨(blk_cell BK174.out 0).trans rfl, (blk_cell BK174.out 1).trans rfl⟩ (fun hHeld => ?_)
                                          clear hK K
                                          refine norm_ (a' := ?_) ?_ ?_
                                          rotate_left
                                          · show Act.put _ (some 17) _ = _
                                            simp only [Act.put, List.setIfInBounds_toArray, List.set_cons_zero, List.set_cons_succ, i64_w, i32_w]
                                            rfl
                                          exact norm_ (by first | (simp only [putAll, Act.put, List.setIfInBounds_toArray, List.set_cons_zero, List.set_cons_succ]; done) | (simp only [putAll, Act.put, List.setIfInBounds_toArray, List.set_cons_zero, List.set_cons_succ]; rfl)) (hJ25 (gb188) _ ⟨hHeld, (by (with_reducible repeat (first | refine blk_drewN ?_ _ | refine blk_drew ?_ | refine blk_alloc ?_ _)); exact BK172.out), (by (with_reducible repeat (first | refine blk_drewN ?_ _ | refine blk_drew ?_ | refine blk_alloc ?_ _)); exact BK173.out), (by (with_reducible repeat (first | refine blk_drewN ?_ _ | refine blk_drew ?_ | refine blk_alloc ?_ _)); exact BK174.out), (by (with_reducible repeat (first | refine blk_drewN ?_ _ | refine blk_drew ?_ | refine blk_alloc ?_ _)); exact BK188.out), GW188.out, GE188.out, NB172_188.out, NB188_172.out, NB173_188.out, NB188_173.out, NB174_188.out, NB188_174.out, (by repeat (first | (with_reducible first | exact HB.out | apply below_alloc | apply pw_below_drewN | apply below_drew1 | refine below_set ?_ GE172.out | refine below_set ?_ GE173.out | refine below_set ?_ GE174.out | refine below_set ?_ GE188.out) | exact HB.out))⟩)
                                      · skip
                                        rintro gb188 w80 ⟨hS_, h0_, h1_, h2_, h3_, h4_, h5_, h6_, h7_, h8_, h9_, h10_, h11_, h12_⟩
                                        have n0_ : Aside0 (w80.heap[gb172]? = some (.cells #[.int .i64 a2_0, .int .i64 a2_1, .int .i64 a2_2] 52 (0, 0))) := ⟨h0_⟩
                                        have n1_ : Aside0 (w80.heap[gb173]? = some (.cells #[.int .i64 x174000_2, .int .i64 x174001_2, .int .i64 x174002_2] 28 (0, 0))) := ⟨h1_⟩
                                        have n2_ : Aside0 (w80.heap[gb174]? = some (.cells #[.int .i64 a2_1, .int .i64 a2_2] 71 (0, 0))) := ⟨h2_⟩
                                        have n3_ : Aside0 (w80.heap[gb188]? = some (.cells #[.int .i64 0, .int .i64 0, .int .i64 0] 28 (0, 0))) := ⟨h3_⟩
                                        have n4_ : Aside0 (w.heap.size ≤ gb188) := ⟨h4_⟩
                                        have n5_ : Aside0 (w.heap.size ≤ gb188) := ⟨h5_⟩
                                        have n6_ : Aside0 (gb172 ≠ gb188) := ⟨h6_⟩
                                        have n7_ : Aside0 (gb188 ≠ gb172) := ⟨h7_⟩
                                        have n8_ : Aside0 (gb173 ≠ gb188) := ⟨h8_⟩
                                        have n9_ : Aside0 (gb188 ≠ gb173) := ⟨h9_⟩
                                        have n10_ : Aside0 (gb174 ≠ gb188) := ⟨h10_⟩
                                        have n11_ : Aside0 (gb188 ≠ gb174) := ⟨h11_⟩
                                        have n12_ : Aside0 (Below w.heap.size w w80) := ⟨h12_⟩
                                        clear BK172
                                        clear BK173
                                        clear BK174
                                        clear HB
                                        clear h0_ h1_ h2_ h3_ h4_ h5_ h6_ h7_ h8_ h9_ h10_ h11_ h12_
                                        have BK172 := n0_
                                        have BK173 := n1_
                                        have BK174 := n2_
                                        have BK188 := n3_
                                        have GW188 := n4_
                                        have GE188 := n5_
                                        have NB172_188 := n6_
                                        have NB188_172 := n7_
                                        have NB173_188 := n8_
                                        have NB188_173 := n9_
                                        have NB174_188 := n10_
                                        have NB188_174 := n11_
                                        have HB := n12_
                                        clear n0_ n1_ n2_ n3_ n4_ n5_ n6_ n7_ n8_ n9_ n10_ n11_ n12_
                                        have hHeld : w80.cell? ⟨gb174, 0, none⟩ = some (.int .i64 a2_1) ∧ w80.cell? ⟨gb174, 1, none⟩ = some (.int .i64 a2_2) := hS_
                                        refine norm_ (a' := ?_) ?_ ?_
                                        rotate_left
                                        · simp only [putAll, Act.put, List.setIfInBounds_toArray, List.set_cons_zero, List.set_cons_succ]
                                          rfl
                                        refine one_ (i := 1) (N := some 76) #[true, true, true, true, true, false, true, false, true, false, true, true, false, false, true, false, true, true, true, true, true, false, false, false, false, true, false] rfl rfl (one_of HT_.out (by kernel_rfl)) (by decide) (fun K hK => ?_)
                                        refine goes_ Try.func35 (by kernel_rfl) rfl #[.agg #[.int .i64 a2_1, .int .i64 a2_2]] (by rfl) rfl rfl (by (try simp only [List.map_toArray, List.map_cons, List.map_nil]); first | done | rfl | (simp only [List.length_drop, List.length_take]; rfl)) ?_
                                        with_reducible refine (score_weights_product.calls a2_1 a2_2 t184 _ A72.out).mono ?_
                                        rintro e w81 ⟨rfl, hb⟩
                                        refine ⟨_, rfl, ?_⟩
                                        have n0_ := Aside0.mk (blk_below (g := gb172) (o := .cells #[.int .i64 a2_0, .int .i64 a2_1, .int .i64 a2_2] 52 (0, 0)) (by (with_reducible repeat (first | refine blk_drewN ?_ _ | refine blk_drew ?_ | refine blk_alloc ?_ _)); exact BK172.out) hb)
                                        have n1_ := Aside0.mk (blk_below (g := gb173) (o := .cells #[.int .i64 x174000_2, .int .i64 x174001_2, .int .i64 x174002_2] 28 (0, 0)) (by (with_reducible repeat (first | refine blk_drewN ?_ _ | refine blk_drew ?_ | refine blk_alloc ?_ _)); exact BK173.out) hb)
                                        have n2_ := Aside0.mk (blk_below (g := gb174) (o := .cells #[.int .i64 a2_1, .int .i64 a2_2] 71 (0, 0)) (by (with_reducible repeat (first | refine blk_drewN ?_ _ | refine blk_drew ?_ | refine blk_alloc ?_ _)); exact BK174.out) hb)
                                        have n3_ := Aside0.mk (blk_below (g := gb188) (o := .cells #[.int .i64 0, .int .i64 0, .int .i64 0] 28 (0, 0)) (by (with_reducible repeat (first | refine blk_drewN ?_ _ | refine blk_drew ?_ | refine blk_alloc ?_ _)); exact BK188.out) hb)
                                        have n4_ := Aside0.mk (below_step (by repeat (first | (with_reducible first | exact HB.out | apply below_alloc | apply pw_below_drewN | apply below_drew1 | refine below_set ?_ GE172.out | refine below_set ?_ GE173.out | refine below_set ?_ GE174.out | refine below_set ?_ GE188.out) | exact HB.out)) hb)
                                        clear BK172
                                        clear BK173
                                        clear BK174
                                        clear BK188
                                        clear HB
                                        have BK172 := n0_
                                        have BK173 := n1_
                                        have BK174 := n2_
                                        have BK188 := n3_
                                        have HB := n4_
                                        clear n0_ n1_ n2_ n3_ n4_
                                        (try clear hb)
                                        (try clear hb2)
                                        (try clear hk)
                                        (try clear hi)
                                        refine hK.out _ _ ⟨(blk_cell BK174.out 0).trans rfl, (blk_cell BK174.out 1).trans rfl⟩ (fun hHeld => ?_)
                                        clear hK K
                                        refine norm_ (a' := ?_) ?_ ?_
                                        rotate_left
                                        · show Act.put _ (some 76) _ = _
                                          simp only [Act.put, List.setIfInBounds_toArray, List.set_cons_zero, List.set_cons_succ, i64_w, i32_w]
                                          rfl
                                        refine pure_ (i := 5) (N := some 80) (v := ?_) (a' := ?_) #[true, true, true, true, true, true, true, false, true, false, true, true, false, false, true, false, true, true, true, true, true, false, false, false, false, true, false] rfl rfl (any_of HT_.out (by kernel_rfl)) (fun _ _ _ h => h) (Or.inl ⟨by rfl, ?_⟩) ?_ ?_
                                        rotate_left
                                        · intro w'
                                          go_simp
                                          with_reducible rfl
                                        rotate_left
                                        · simp only [Act.put, List.setIfInBounds_toArray, List.set_cons_zero, List.set_cons_succ, i64_w, i32_w]
                                          rfl
                                        exact norm_ (by first | (simp only [putAll, Act.put, List.setIfInBounds_toArray, List.set_cons_zero, List.set_cons_succ]; done) | (simp only [putAll, Act.put, List.setIfInBounds_toArray, List.set_cons_zero, List.set_cons_succ]; rfl)) (hJ1_25 (gb188) _ ⟨hHeld, (by (with_reducible repeat (first | refine blk_drewN ?_ _ | refine blk_drew ?_ | refine blk_alloc ?_ _)); exact BK172.out), (by (with_reducible repeat (first | refine blk_drewN ?_ _ | refine blk_drew ?_ | refine blk_alloc ?_ _)); exact BK173.out), (by (with_reducible repeat (first | refine blk_drewN ?_ _ | refine blk_drew ?_ | refine blk_alloc ?_ _)); exact BK174.out), (by (with_reducible repeat (first | refine blk_drewN ?_ _ | refine blk_drew ?_ | refine blk_alloc ?_ _)); exact BK188.out), GW188.out, GE188.out, NB172_188.out, NB188_172.out, NB173_188.out, NB188_173.out, NB174_188.out, NB188_174.out, (by repeat (first | (with_reducible first | exact HB.out | apply below_alloc | apply pw_below_drewN | apply below_drew1 | refine below_set ?_ GE172.out | refine below_set ?_ GE173.out | refine below_set ?_ GE174.out | refine below_set ?_ GE188.out) | exact HB.out))⟩)
                                    · skip
                                      rintro _ w80 ⟨hS_, h0_, h1_, h2_, h3_⟩
                                      have n0_ : Aside0 (w80.heap[gb172]? = some (.cells #[.int .i64 a2_0, .int .i64 a2_1, .int .i64 a2_2] 52 (0, 0))) := ⟨h0_⟩
                                      have n1_ : Aside0 (w80.heap[gb173]? = some (.cells #[.int .i64 x174000_2, .int .i64 x174001_2, .int .i64 x174002_2] 28 (0, 0))) := ⟨h1_⟩
                                      have n2_ : Aside0 (w80.heap[gb174]? = some (.cells #[.int .i64 a2_1, .int .i64 a2_2] 71 (0, 0))) := ⟨h2_⟩
                                      have n3_ : Aside0 (Below w.heap.size w w80) := ⟨h3_⟩
                                      clear BK172
                                      clear BK173
                                      clear BK174
                                      clear HB
                                      clear h0_ h1_ h2_ h3_
                                      have BK172 := n0_
                                      have BK173 := n1_
                                      have BK174 := n2_
                                      have HB := n3_
                                      clear n0_ n1_ n2_ n3_
                                      have hHeld : w80.cell? ⟨gb174, 0, none⟩ = some (.int .i64 a2_1) ∧ w80.cell? ⟨gb174, 1, none⟩ = some (.int .i64 a2_2) := hS_
                                      refine norm_ (a' := ?_) ?_ ?_
                                      rotate_left
                                      · simp only [putAll, Act.put, List.setIfInBounds_toArray, List.set_cons_zero, List.set_cons_succ]
                                        rfl
                                      refine two_ (i := 7) (j := 25) (Ni := some 82) (Nj := some 17) #[true, true, true, true, true, true, true, true, true, false, true, true, false, false, true, false, true, true, true, true, true, false, false, false, false, false, false] #[true, true, true, true, true, true, true, false, true, false, true, true, false, false, true, false, true, true, true, true, true, false, false, false, false, true, false] rfl rfl rfl rfl (two_of HT_.out (by kernel_rfl)) (by decide) (by decide) (fun K hK => ?_) (fun K hK => ?_)
                                      · skip
                                        refine goes_ Try.func35 (by kernel_rfl) rfl #[.agg #[.int .i64 a2_1, .int .i64 a2_2]] (by rfl) rfl rfl (by (try simp only [List.map_toArray, List.map_cons, List.map_nil]); first | done | rfl | (simp only [List.length_drop, List.length_take]; rfl)) ?_
                                        with_reducible refine (score_weights_product.calls a2_1 a2_2 t185 _ A73.out).mono ?_
                                        rintro e w81 ⟨rfl, hb⟩
                                        refine ⟨_, rfl, ?_⟩
                                        have n0_ := Aside0.mk (blk_below (g := gb172) (o := .cells #[.int .i64 a2_0, .int .i64 a2_1, .int .i64 a2_2] 52 (0, 0)) (by (with_reducible repeat (first | refine blk_drewN ?_ _ | refine blk_drew ?_ | refine blk_alloc ?_ _)); exact BK172.out) hb)
                                        have n1_ := Aside0.mk (blk_below (g := gb173) (o := .cells #[.int .i64 x174000_2, .int .i64 x174001_2, .int .i64 x174002_2] 28 (0, 0)) (by (with_reducible repeat (first | refine blk_drewN ?_ _ | refine blk_drew ?_ | refine blk_alloc ?_ _)); exact BK173.out) hb)
                                        have n2_ := Aside0.mk (blk_below (g := gb174) (o := .cells #[.int .i64 a2_1, .int .i64 a2_2] 71 (0, 0)) (by (with_reducible repeat (first | refine blk_drewN ?_ _ | refine blk_drew ?_ | refine blk_alloc ?_ _)); exact BK174.out) hb)
                                        have n3_ := Aside0.mk (below_step (by repeat (first | (with_reducible first | exact HB.out | apply below_alloc | apply pw_below_drewN | apply below_drew1 | refine below_set ?_ GE172.out | refine below_set ?_ GE173.out | refine below_set ?_ GE174.out) | exact HB.out)) hb)
                                        clear BK172
                                        clear BK173
                                        clear BK174
                                        clear HB
                                        have BK172 := n0_
                                        have BK173 := n1_
                                        have BK174 := n2_
                                        have HB := n3_
                                        clear n0_ n1_ n2_ n3_
                                        (try clear hb)
                                        (try clear hb2)
                                        (try clear hk)
                                        (try clear hi)
                                        refine hK.out _ _ ⟨(blk_cell BK174.out 0).trans rfl, (blk_cell BK174.out 1).trans rfl⟩ (fun hHeld => ?_)
                                        clear hK K
                                        refine norm_ (a' := ?_) ?_ ?_
                                        rotate_left
                                        · show Act.put _ (some 82) _ = _
                                          simp only [Act.put, List.setIfInBounds_toArray, List.set_cons_zero, List.set_cons_succ, i64_w, i32_w]
                                          rfl
                                        refine pure_ (i := 9) (N := some 84) (v := ?_) (a' := ?_) #[true, true, true, true, true, true, true, true, true, true, true, true, false, false, true, false, true, true, true, true, true, false, false, false, false, false, false] rfl rfl (any_of HT_.out (by kernel_rfl)) (fun _ _ _ h => h) (Or.inl ⟨by rfl, ?_⟩) ?_ ?_
                                        rotate_left
                                        · intro w'
                                          go_simp
                                          with_reducible rfl
                                        rotate_left
                                        · simp only [Act.put, List.setIfInBounds_toArray, List.set_cons_zero, List.set_cons_succ, i64_w, i32_w]
                                          rfl
                                        exact norm_ (by first | (simp only [putAll, Act.put, List.setIfInBounds_toArray, List.set_cons_zero, List.set_cons_succ]; done) | (simp only [putAll, Act.put, List.setIfInBounds_toArray, List.set_cons_zero, List.set_cons_succ]; rfl)) (hJ1_7 () _ ⟨hHeld, (by (with_reducible repeat (first | refine blk_drewN ?_ _ | refine blk_drew ?_ | refine blk_alloc ?_ _)); exact BK172.out), (by (with_reducible repeat (first | refine blk_drewN ?_ _ | refine blk_drew ?_ | refine blk_alloc ?_ _)); exact BK173.out), (by (with_reducible repeat (first | refine blk_drewN ?_ _ | refine blk_drew ?_ | refine blk_alloc ?_ _)); exact BK174.out), (by repeat (first | (with_reducible first | exact HB.out | apply below_alloc | apply pw_below_drewN | apply below_drew1 | refine below_set ?_ GE172.out | refine below_set ?_ GE173.out | refine below_set ?_ GE174.out) | exact HB.out))⟩)
                                      · skip
                                        refine box_step ?hg (N := 17) ?hd (cs := #[.int .i64 0, .int .i64 0, .int .i64 0]) (t := 28) ?hr ?_; (case hd => rfl); (case hg => rfl); (case hr => first | (go_simp; done) | (go_simp; rfl))
                                        intro gb188 hg w81 hbox hb
                                        have n0_ := Aside0.mk (blk_below (g := gb172) (o := .cells #[.int .i64 a2_0, .int .i64 a2_1, .int .i64 a2_2] 52 (0, 0)) (by (with_reducible repeat (first | refine blk_drewN ?_ _ | refine blk_drew ?_ | refine blk_alloc ?_ _)); exact BK172.out) hb)
                                        have n1_ := Aside0.mk (blk_below (g := gb173) (o := .cells #[.int .i64 x174000_2, .int .i64 x174001_2, .int .i64 x174002_2] 28 (0, 0)) (by (with_reducible repeat (first | refine blk_drewN ?_ _ | refine blk_drew ?_ | refine blk_alloc ?_ _)); exact BK173.out) hb)
                                        have n2_ := Aside0.mk (blk_below (g := gb174) (o := .cells #[.int .i64 a2_1, .int .i64 a2_2] 71 (0, 0)) (by (with_reducible repeat (first | refine blk_drewN ?_ _ | refine blk_drew ?_ | refine blk_alloc ?_ _)); exact BK174.out) hb)
                                        have n3_ := Aside0.mk (below_step (by repeat (first | (with_reducible first | exact HB.out | apply below_alloc | apply pw_below_drewN | apply below_drew1 | refine below_set ?_ GE172.out | refine below_set ?_ GE173.out | refine below_set ?_ GE174.out) | exact HB.out)) hb)
                                        have n4_ := Aside0.mk (hbox)
                                        have n5_ := Aside0.mk ((by rw [hg]; exact (below_size (by repeat (first | (with_reducible first | exact HB.out | apply below_alloc | apply pw_below_drewN | apply below_drew1 | refine below_set ?_ GE172.out | refine below_set ?_ GE173.out | refine below_set ?_ GE174.out) | exact HB.out))) : w.heap.size ≤ gb188))
                                        have n6_ := Aside0.mk ((by rw [hg]; exact (below_size (by repeat (first | (with_reducible first | exact HB.out | apply below_alloc | apply pw_below_drewN | apply below_drew1 | refine below_set ?_ GE172.out | refine below_set ?_ GE173.out | refine below_set ?_ GE174.out) | exact HB.out))) : w.heap.size ≤ gb188))
                                        have n7_ := Aside0.mk ((by rw [hg]; exact Nat.ne_of_lt (blk_lt (g := gb172) (o := .cells #[.int .i64 a2_0, .int .i64 a2_1, .int .i64 a2_2] 52 (0, 0)) (by (with_reducible repeat (first | refine blk_drewN ?_ _ | refine blk_drew ?_ | refine blk_alloc ?_ _)); exact BK172.out)) : gb172 ≠ gb188))
                                        have n8_ := Aside0.mk ((by rw [hg]; exact Nat.ne_of_gt (blk_lt (g := gb172) (o := .cells #[.int .i64 a2_0, .int .i64 a2_1, .int .i64 a2_2] 52 (0, 0)) (by (with_reducible repeat (first | refine blk_drewN ?_ _ | refine blk_drew ?_ | refine blk_alloc ?_ _)); exact BK172.out)) : gb188 ≠ gb172))
                                        have n9_ := Aside0.mk ((by rw [hg]; exact Nat.ne_of_lt (blk_lt (g := gb173) (o := .cells #[.int .i64 x174000_2, .int .i64 x174001_2, .int .i64 x174002_2] 28 (0, 0)) (by (with_reducible repeat (first | refine blk_drewN ?_ _ | refine blk_drew ?_ | refine blk_alloc ?_ _)); exact BK173.out)) : gb173 ≠ gb188))
                                        have n10_ := Aside0.mk ((by rw [hg]; exact Nat.ne_of_gt (blk_lt (g := gb173) (o := .cells #[.int .i64 x174000_2, .int .i64 x174001_2, .int .i64 x174002_2] 28 (0, 0)) (by (with_reducible repeat (first | refine blk_drewN ?_ _ | refine blk_drew ?_ | refine blk_alloc ?_ _)); exact BK173.out)) : gb188 ≠ gb173))
                                        have n11_ := Aside0.mk ((by rw [hg]; exact Nat.ne_of_lt (blk_lt (g := gb174) (o := .cells #[.int .i64 a2_1, .int .i64 a2_2] 71 (0, 0)) (by (with_reducible repeat (first | refine blk_drewN ?_ _ | refine blk_drew ?_ | refine blk_alloc ?_ _)); exact BK174.out)) : gb174 ≠ gb188))
                                        have n12_ := Aside0.mk ((by rw [hg]; exact Nat.ne_of_gt (blk_lt (g := gb174) (o := .cells #[.int .i64 a2_1, .int .i64 a2_2] 71 (0, 0)) (by (with_reducible repeat (first | refine blk_drewN ?_ _ | refine blk_drew ?_ | refine blk_alloc ?_ _)); exact BK174.out)) : gb188 ≠ gb174))
                                        clear BK172
                                        clear BK173
                                        clear BK174
                                        clear HB
                                        have BK172 := n0_
                                        have BK173 := n1_
                                        have BK174 := n2_
                                        have HB := n3_
                                        have BK188 := n4_
                                        have GW188 := n5_
                                        have GE188 := n6_
                                        have NB172_188 := n7_
                                        have NB188_172 := n8_
                                        have NB173_188 := n9_
                                        have NB188_173 := n10_
                                        have NB174_188 := n11_
                                        have NB188_174 := n12_
                                        clear n0_ n1_ n2_ n3_ n4_ n5_ n6_ n7_ n8_ n9_ n10_ n11_ n12_
                                        clear hb hbox hg
                                        refine hK.out _ _ ⟨(blk_cell BK174.out 0).trans rfl, (blk_cell BK174.out 1).trans rfl⟩ (fun hHeld => ?_)
                                        clear hK K
                                        refine norm_ (a' := ?_) ?_ ?_
                                        rotate_left
                                        · show Act.put _ (some 17) _ = _
                                          simp only [Act.put, List.setIfInBounds_toArray, List.set_cons_zero, List.set_cons_succ, i64_w, i32_w]
                                          rfl
                                        exact norm_ (by first | (simp only [putAll, Act.put, List.setIfInBounds_toArray, List.set_cons_zero, List.set_cons_succ]; done) | (simp only [putAll, Act.put, List.setIfInBounds_toArray, List.set_cons_zero, List.set_cons_succ]; rfl)) (hJ1_25 (gb188) _ ⟨hHeld, (by (with_reducible repeat (first | refine blk_drewN ?_ _ | refine blk_drew ?_ | refine blk_alloc ?_ _)); exact BK172.out), (by (with_reducible repeat (first | refine blk_drewN ?_ _ | refine blk_drew ?_ | refine blk_alloc ?_ _)); exact BK173.out), (by (with_reducible repeat (first | refine blk_drewN ?_ _ | refine blk_drew ?_ | refine blk_alloc ?_ _)); exact BK174.out), (by (with_reducible repeat (first | refine blk_drewN ?_ _ | refine blk_drew ?_ | refine blk_alloc ?_ _)); exact BK188.out), GW188.out, GE188.out, NB172_188.out, NB188_172.out, NB173_188.out, NB188_173.out, NB174_188.out, NB188_174.out, (by repeat (first | (with_reducible first | exact HB.out | apply below_alloc | apply pw_below_drewN | apply below_drew1 | refine below_set ?_ GE172.out | refine below_set ?_ GE173.out | refine below_set ?_ GE174.out | refine below_set ?_ GE188.out) | exact HB.out))⟩)
                                  · skip
                                    rintro gb188 w81 ⟨hS_, h0_, h1_, h2_, h3_, h4_, h5_, h6_, h7_, h8_, h9_, h10_, h11_, h12_⟩
                                    have n0_ : Aside0 (w81.heap[gb172]? = some (.cells #[.int .i64 a2_0, .int .i64 a2_1, .int .i64 a2_2] 52 (0, 0))) := ⟨h0_⟩
                                    have n1_ : Aside0 (w81.heap[gb173]? = some (.cells #[.int .i64 x174000_2, .int .i64 x174001_2, .int .i64 x174002_2] 28 (0, 0))) := ⟨h1_⟩
                                    have n2_ : Aside0 (w81.heap[gb174]? = some (.cells #[.int .i64 a2_1, .int .i64 a2_2] 71 (0, 0))) := ⟨h2_⟩
                                    have n3_ : Aside0 (w81.heap[gb188]? = some (.cells #[.int .i64 0, .int .i64 0, .int .i64 0] 28 (0, 0))) := ⟨h3_⟩
                                    have n4_ : Aside0 (w.heap.size ≤ gb188) := ⟨h4_⟩
                                    have n5_ : Aside0 (w.heap.size ≤ gb188) := ⟨h5_⟩
                                    have n6_ : Aside0 (gb172 ≠ gb188) := ⟨h6_⟩
                                    have n7_ : Aside0 (gb188 ≠ gb172) := ⟨h7_⟩
                                    have n8_ : Aside0 (gb173 ≠ gb188) := ⟨h8_⟩
                                    have n9_ : Aside0 (gb188 ≠ gb173) := ⟨h9_⟩
                                    have n10_ : Aside0 (gb174 ≠ gb188) := ⟨h10_⟩
                                    have n11_ : Aside0 (gb188 ≠ gb174) := ⟨h11_⟩
                                    have n12_ : Aside0 (Below w.heap.size w w81) := ⟨h12_⟩
                                    clear BK172
                                    clear BK173
                                    clear BK174
                                    clear HB
                                    clear h0_ h1_ h2_ h3_ h4_ h5_ h6_ h7_ h8_ h9_ h10_ h11_ h12_
                                    have BK172 := n0_
                                    have BK173 := n1_
                                    have BK174 := n2_
                                    have BK188 := n3_
                                    have GW188 := n4_
                                    have GE188 := n5_
                                    have NB172_188 := n6_
                                    have NB188_172 := n7_
                                    have NB173_188 := n8_
                                    have NB188_173 := n9_
                                    have NB174_188 := n10_
                                    have NB188_174 := n11_
                                    have HB := n12_
                                    clear n0_ n1_ n2_ n3_ n4_ n5_ n6_ n7_ n8_ n9_ n10_ n11_ n12_
                                    have hHeld : w81.cell? ⟨gb174, 0, none⟩ = some (.int .i64 a2_1) ∧ w81.cell? ⟨gb174, 1, none⟩ = some (.int .i64 a2_2) := hS_
                                    refine norm_ (a' := ?_) ?_ ?_
                                    rotate_left
                                    · simp only [putAll, Act.put, List.setIfInBounds_toArray, List.set_cons_zero, List.set_cons_succ]
                                      rfl
                                    refine one_ (i := 7) (N := some 82) #[true, true, true, true, true, true, true, true, true, false, true, true, false, false, true, false, true, true, true, true, true, false, false, false, false, true, false] rfl rfl (one_of HT_.out (by kernel_rfl)) (by decide) (fun K hK => ?_)
                                    refine goes_ Try.func35 (by kernel_rfl) rfl #[.agg #[.int .i64 a2_1, .int .i64 a2_2]] (by rfl) rfl rfl (by (try simp only [List.map_toArray, List.map_cons, List.map_nil]); first | done | rfl | (simp only [List.length_drop, List.length_take]; rfl)) ?_
                                    with_reducible refine (score_weights_product.calls a2_1 a2_2 t185 _ A73.out).mono ?_
                                    rintro e w82 ⟨rfl, hb⟩
                                    refine ⟨_, rfl, ?_⟩
                                    have n0_ := Aside0.mk (blk_below (g := gb172) (o := .cells #[.int .i64 a2_0, .int .i64 a2_1, .int .i64 a2_2] 52 (0, 0)) (by (with_reducible repeat (first | refine blk_drewN ?_ _ | refine blk_drew ?_ | refine blk_alloc ?_ _)); exact BK172.out) hb)
                                    have n1_ := Aside0.mk (blk_below (g := gb173) (o := .cells #[.int .i64 x174000_2, .int .i64 x174001_2, .int .i64 x174002_2] 28 (0, 0)) (by (with_reducible repeat (first | refine blk_drewN ?_ _ | refine blk_drew ?_ | refine blk_alloc ?_ _)); exact BK173.out) hb)
                                    have n2_ := Aside0.mk (blk_below (g := gb174) (o := .cells #[.int .i64 a2_1, .int .i64 a2_2] 71 (0, 0)) (by (with_reducible repeat (first | refine blk_drewN ?_ _ | refine blk_drew ?_ | refine blk_alloc ?_ _)); exact BK174.out) hb)
                                    have n3_ := Aside0.mk (blk_below (g := gb188) (o := .cells #[.int .i64 0, .int .i64 0, .int .i64 0] 28 (0, 0)) (by (with_reducible repeat (first | refine blk_drewN ?_ _ | refine blk_drew ?_ | refine blk_alloc ?_ _)); exact BK188.out) hb)
                                    have n4_ := Aside0.mk (below_step (by repeat (first | (with_reducible first | exact HB.out | apply below_alloc | apply pw_below_drewN | apply below_drew1 | refine below_set ?_ GE172.out | refine below_set ?_ GE173.out | refine below_set ?_ GE174.out | refine below_set ?_ GE188.out) | exact HB.out)) hb)
                                    clear BK172
                                    clear BK173
                                    clear BK174
                                    clear BK188
                                    clear HB
                                    have BK172 := n0_
                                    have BK173 := n1_
                                    have BK174 := n2_
                                    have BK188 := n3_
                                    have HB := n4_
                                    clear n0_ n1_ n2_ n3_ n4_
                                    (try clear hb)
                                    (try clear hb2)
                                    (try clear hk)
                                    (try clear hi)
                                    refine hK.out _ _ ⟨(blk_cell BK174.out 0).trans rfl, (blk_cell BK174.out 1).trans rfl⟩ (fun hHeld => ?_)
                                    clear hK K
                                    refine norm_ (a' := ?_) ?_ ?_
                                    rotate_left
                                    · show Act.put _ (some 82) _ = _
                                      simp only [Act.put, List.setIfInBounds_toArray, List.set_cons_zero, List.set_cons_succ, i64_w, i32_w]
                                      rfl
                                    refine pure_ (i := 9) (N := some 84) (v := ?_) (a' := ?_) #[true, true, true, true, true, true, true, true, true, true, true, true, false, false, true, false, true, true, true, true, true, false, false, false, false, true, false] rfl rfl (any_of HT_.out (by kernel_rfl)) (fun _ _ _ h => h) (Or.inl ⟨by rfl, ?_⟩) ?_ ?_
                                    rotate_left
                                    · intro w'
                                      go_simp
                                      with_reducible rfl
                                    rotate_left
                                    · simp only [Act.put, List.setIfInBounds_toArray, List.set_cons_zero, List.set_cons_succ, i64_w, i32_w]
                                      rfl
                                    exact norm_ (by first | (simp only [putAll, Act.put, List.setIfInBounds_toArray, List.set_cons_zero, List.set_cons_succ]; done) | (simp only [putAll, Act.put, List.setIfInBounds_toArray, List.set_cons_zero, List.set_cons_succ]; rfl)) (hJ1_7_25 (gb188) _ ⟨hHeld, (by (with_reducible repeat (first | refine blk_drewN ?_ _ | refine blk_drew ?_ | refine blk_alloc ?_ _)); exact BK172.out), (by (with_reducible repeat (first | refine blk_drewN ?_ _ | refine blk_drew ?_ | refine blk_alloc ?_ _)); exact BK173.out), (by (with_reducible repeat (first | refine blk_drewN ?_ _ | refine blk_drew ?_ | refine blk_alloc ?_ _)); exact BK174.out), (by (with_reducible repeat (first | refine blk_drewN ?_ _ | refine blk_drew ?_ | refine blk_alloc ?_ _)); exact BK188.out), GW188.out, GE188.out, NB172_188.out, NB188_172.out, NB173_188.out, NB188_173.out, NB174_188.out, NB188_174.out, (by repeat (first | (with_reducible first | exact HB.out | apply below_alloc | apply pw_below_drewN | apply below_drew1 | refine below_set ?_ GE172.out | refine below_set ?_ GE173.out | refine below_set ?_ GE174.out | refine below_set ?_ GE188.out) | exact HB.out))⟩)
                                · skip
                                  rintro _ w81 ⟨hS_, h0_, h1_, h2_, h3_⟩
                                  have n0_ : Aside0 (w81.heap[gb172]? = some (.cells #[.int .i64 a2_0, .int .i64 a2_1, .int .i64 a2_2] 52 (0, 0))) := ⟨h0_⟩
                                  have n1_ : Aside0 (w81.heap[gb173]? = some (.cells #[.int .i64 x174000_2, .int .i64 x174001_2, .int .i64 x174002_2] 28 (0, 0))) := ⟨h1_⟩
                                  have n2_ : Aside0 (w81.heap[gb174]? = some (.cells #[.int .i64 a2_1, .int .i64 a2_2] 71 (0, 0))) := ⟨h2_⟩
                                  have n3_ : Aside0 (Below w.heap.size w w81) := ⟨h3_⟩
                                  clear BK172
                                  clear BK173
                                  clear BK174
                                  clear HB
                                  clear h0_ h1_ h2_ h3_
                                  have BK172 := n0_
                                  have BK173 := n1_
                                  have BK174 := n2_
                                  have HB := n3_
                                  clear n0_ n1_ n2_ n3_
                                  have hHeld : w81.cell? ⟨gb174, 0, none⟩ = some (.int .i64 a2_1) ∧ w81.cell? ⟨gb174, 1, none⟩ = some (.int .i64 a2_2) := hS_
                                  refine norm_ (a' := ?_) ?_ ?_
                                  rotate_left
                                  · simp only [putAll, Act.put, List.setIfInBounds_toArray, List.set_cons_zero, List.set_cons_succ]
                                    rfl
                                  refine two_ (i := 12) (j := 25) (Ni := some 87) (Nj := some 17) #[true, true, true, true, true, true, true, true, true, true, true, true, true, false, true, false, true, true, true, true, true, false, false, false, false, false, false] #[true, true, true, true, true, true, true, true, true, true, true, true, false, false, true, false, true, true, true, true, true, false, false, false, false, true, false] rfl rfl rfl rfl (two_of HT_.out (by kernel_rfl)) (by decide) (by decide) (fun K hK => ?_) (fun K hK => ?_)
                                  · skip
                                    refine goes_ Try.func35 (by kernel_rfl) rfl #[.agg #[.int .i64 a2_1, .int .i64 a2_2]] (by rfl) rfl rfl (by (try simp only [List.map_toArray, List.map_cons, List.map_nil]); first | done | rfl | (simp only [List.length_drop, List.length_take]; rfl)) ?_
                                    with_reducible refine (score_weights_product.calls a2_1 a2_2 t186 _ A74.out).mono ?_
                                    rintro e w82 ⟨rfl, hb⟩
                                    refine ⟨_, rfl, ?_⟩
                                    have n0_ := Aside0.mk (blk_below (g := gb172) (o := .cells #[.int .i64 a2_0, .int .i64 a2_1, .int .i64 a2_2] 52 (0, 0)) (by (with_reducible repeat (first | refine blk_drewN ?_ _ | refine blk_drew ?_ | refine blk_alloc ?_ _)); exact BK172.out) hb)
                                    have n1_ := Aside0.mk (blk_below (g := gb173) (o := .cells #[.int .i64 x174000_2, .int .i64 x174001_2, .int .i64 x174002_2] 28 (0, 0)) (by (with_reducible repeat (first | refine blk_drewN ?_ _ | refine blk_drew ?_ | refine blk_alloc ?_ _)); exact BK173.out) hb)
                                    have n2_ := Aside0.mk (blk_below (g := gb174) (o := .cells #[.int .i64 a2_1, .int .i64 a2_2] 71 (0, 0)) (by (with_reducible repeat (first | refine blk_drewN ?_ _ | refine blk_drew ?_ | refine blk_alloc ?_ _)); exact BK174.out) hb)
                                    have n3_ := Aside0.mk (below_step (by repeat (first | (with_reducible first | exact HB.out | apply below_alloc | apply pw_below_drewN | apply below_drew1 | refine below_set ?_ GE172.out | refine below_set ?_ GE173.out | refine below_set ?_ GE174.out) | exact HB.out)) hb)
                                    clear BK172
                                    clear BK173
                                    clear BK174
                                    clear HB
                                    have BK172 := n0_
                                    have BK173 := n1_
                                    have BK174 := n2_
                                    have HB := n3_
                                    clear n0_ n1_ n2_ n3_
                                    (try clear hb)
                                    (try clear hb2)
                                    (try clear hk)
                                    (try clear hi)
                                    refine hK.out _ _ ⟨(blk_cell BK174.out 0).trans rfl, (blk_cell BK174.out 1).trans rfl⟩ (fun hHeld => ?_)
                                    clear hK K
                                    refine norm_ (a' := ?_) ?_ ?_
                                    rotate_left
                                    · show Act.put _ (some 87) _ = _
                                      simp only [Act.put, List.setIfInBounds_toArray, List.set_cons_zero, List.set_cons_succ, i64_w, i32_w]
                                      rfl
                                    refine pure_ (i := 13) (N := some 88) (v := ?_) (a' := ?_) #[true, true, true, true, true, true, true, true, true, true, true, true, true, true, true, false, true, true, true, true, true, false, false, false, false, false, false] rfl rfl (any_of HT_.out (by kernel_rfl)) (fun _ _ _ h => h) (Or.inl ⟨by rfl, ?_⟩) ?_ ?_
                                    rotate_left
                                    · intro w'
                                      go_simp
                                      with_reducible rfl
                                    rotate_left
                                    · simp only [Act.put, List.setIfInBounds_toArray, List.set_cons_zero, List.set_cons_succ, i64_w, i32_w]
                                      rfl
                                    exact norm_ (by first | (simp only [putAll, Act.put, List.setIfInBounds_toArray, List.set_cons_zero, List.set_cons_succ]; done) | (simp only [putAll, Act.put, List.setIfInBounds_toArray, List.set_cons_zero, List.set_cons_succ]; rfl)) (hJ1_7_12 () _ ⟨hHeld, (by (with_reducible repeat (first | refine blk_drewN ?_ _ | refine blk_drew ?_ | refine blk_alloc ?_ _)); exact BK172.out), (by (with_reducible repeat (first | refine blk_drewN ?_ _ | refine blk_drew ?_ | refine blk_alloc ?_ _)); exact BK173.out), (by (with_reducible repeat (first | refine blk_drewN ?_ _ | refine blk_drew ?_ | refine blk_alloc ?_ _)); exact BK174.out), (by repeat (first | (with_reducible first | exact HB.out | apply below_alloc | apply pw_below_drewN | apply below_drew1 | refine below_set ?_ GE172.out | refine below_set ?_ GE173.out | refine below_set ?_ GE174.out) | exact HB.out))⟩)
                                  · skip
                                    refine box_step ?hg (N := 17) ?hd (cs := #[.int .i64 0, .int .i64 0, .int .i64 0]) (t := 28) ?hr ?_; (case hd => rfl); (case hg => rfl); (case hr => first | (go_simp; done) | (go_simp; rfl))
                                    intro gb188 hg w82 hbox hb
                                    have n0_ := Aside0.mk (blk_below (g := gb172) (o := .cells #[.int .i64 a2_0, .int .i64 a2_1, .int .i64 a2_2] 52 (0, 0)) (by (with_reducible repeat (first | refine blk_drewN ?_ _ | refine blk_drew ?_ | refine blk_alloc ?_ _)); exact BK172.out) hb)
                                    have n1_ := Aside0.mk (blk_below (g := gb173) (o := .cells #[.int .i64 x174000_2, .int .i64 x174001_2, .int .i64 x174002_2] 28 (0, 0)) (by (with_reducible repeat (first | refine blk_drewN ?_ _ | refine blk_drew ?_ | refine blk_alloc ?_ _)); exact BK173.out) hb)
                                    have n2_ := Aside0.mk (blk_below (g := gb174) (o := .cells #[.int .i64 a2_1, .int .i64 a2_2] 71 (0, 0)) (by (with_reducible repeat (first | refine blk_drewN ?_ _ | refine blk_drew ?_ | refine blk_alloc ?_ _)); exact BK174.out) hb)
                                    have n3_ := Aside0.mk (below_step (by repeat (first | (with_reducible first | exact HB.out | apply below_alloc | apply pw_below_drewN | apply below_drew1 | refine below_set ?_ GE172.out | refine below_set ?_ GE173.out | refine below_set ?_ GE174.out) | exact HB.out)) hb)
                                    have n4_ := Aside0.mk (hbox)
                                    have n5_ := Aside0.mk ((by rw [hg]; exact (below_size (by repeat (first | (with_reducible first | exact HB.out | apply below_alloc | apply pw_below_drewN | apply below_drew1 | refine below_set ?_ GE172.out | refine below_set ?_ GE173.out | refine below_set ?_ GE174.out) | exact HB.out))) : w.heap.size ≤ gb188))
                                    have n6_ := Aside0.mk ((by rw [hg]; exact (below_size (by repeat (first | (with_reducible first | exact HB.out | apply below_alloc | apply pw_below_drewN | apply below_drew1 | refine below_set ?_ GE172.out | refine below_set ?_ GE173.out | refine below_set ?_ GE174.out) | exact HB.out))) : w.heap.size ≤ gb188))
                                    have n7_ := Aside0.mk ((by rw [hg]; exact Nat.ne_of_lt (blk_lt (g := gb172) (o := .cells #[.int .i64 a2_0, .int .i64 a2_1, .int .i64 a2_2] 52 (0, 0)) (by (with_reducible repeat (first | refine blk_drewN ?_ _ | refine blk_drew ?_ | refine blk_alloc ?_ _)); exact BK172.out)) : gb172 ≠ gb188))
                                    have n8_ := Aside0.mk ((by rw [hg]; exact Nat.ne_of_gt (blk_lt (g := gb172) (o := .cells #[.int .i64 a2_0, .int .i64 a2_1, .int .i64 a2_2] 52 (0, 0)) (by (with_reducible repeat (first | refine blk_drewN ?_ _ | refine blk_drew ?_ | refine blk_alloc ?_ _)); exact BK172.out)) : gb188 ≠ gb172))
                                    have n9_ := Aside0.mk ((by rw [hg]; exact Nat.ne_of_lt (blk_lt (g := gb173) (o := .cells #[.int .i64 x174000_2, .int .i64 x174001_2, .int .i64 x174002_2] 28 (0, 0)) (by (with_reducible repeat (first | refine blk_drewN ?_ _ | refine blk_drew ?_ | refine blk_alloc ?_ _)); exact BK173.out)) : gb173 ≠ gb188))
                                    have n10_ := Aside0.mk ((by rw [hg]; exact Nat.ne_of_gt (blk_lt (g := gb173) (o := .cells #[.int .i64 x174000_2, .int .i64 x174001_2, .int .i64 x174002_2] 28 (0, 0)) (by (with_reducible repeat (first | refine blk_drewN ?_ _ | refine blk_drew ?_ | refine blk_alloc ?_ _)); exact BK173.out)) : gb188 ≠ gb173))
                                    have n11_ := Aside0.mk ((by rw [hg]; exact Nat.ne_of_lt (blk_lt (g := gb174) (o := .cells #[.int .i64 a2_1, .int .i64 a2_2] 71 (0, 0)) (by (with_reducible repeat (first | refine blk_drewN ?_ _ | refine blk_drew ?_ | refine blk_alloc ?_ _)); exact BK174.out)) : gb174 ≠ gb188))
                                    have n12_ := Aside0.mk ((by rw [hg]; exact Nat.ne_of_gt (blk_lt (g := gb174) (o := .cells #[.int .i64 a2_1, .int .i64 a2_2] 71 (0, 0)) (by (with_reducible repeat (first | refine blk_drewN ?_ _ | refine blk_drew ?_ | refine blk_alloc ?_ _)); exact BK174.out)) : gb188 ≠ gb174))
                                    clear BK172
                                    clear BK173
                                    clear BK174
                                    clear HB
                                    have BK172 := n0_
                                    have BK173 := n1_
                                    have BK174 := n2_
                                    have HB := n3_
                                    have BK188 := n4_
                                    have GW188 := n5_
                                    have GE188 := n6_
                                    have NB172_188 := n7_
                                    have NB188_172 := n8_
                                    have NB173_188 := n9_
                                    have NB188_173 := n10_
                                    have NB174_188 := n11_
                                    have NB188_174 := n12_
                                    clear n0_ n1_ n2_ n3_ n4_ n5_ n6_ n7_ n8_ n9_ n10_ n11_ n12_
                                    clear hb hbox hg
                                    refine hK.out _ _ ⟨(blk_cell BK174.out 0).trans rfl, (blk_cell BK174.out 1).trans rfl⟩ (fun hHeld => ?_)
                                    clear hK K
                                    refine norm_ (a' := ?_) ?_ ?_
                                    rotate_left
                                    · show Act.put _ (some 17) _ = _
                                      simp only [Act.put, List.setIfInBounds_toArray, List.set_cons_zero, List.set_cons_succ, i64_w, i32_w]
                                      rfl
                                    exact norm_ (by first | (simp only [putAll, Act.put, List.setIfInBounds_toArray, List.set_cons_zero, List.set_cons_succ]; done) | (simp only [putAll, Act.put, List.setIfInBounds_toArray, List.set_cons_zero, List.set_cons_succ]; rfl)) (hJ1_7_25 (gb188) _ ⟨hHeld, (by (with_reducible repeat (first | refine blk_drewN ?_ _ | refine blk_drew ?_ | refine blk_alloc ?_ _)); exact BK172.out), (by (with_reducible repeat (first | refine blk_drewN ?_ _ | refine blk_drew ?_ | refine blk_alloc ?_ _)); exact BK173.out), (by (with_reducible repeat (first | refine blk_drewN ?_ _ | refine blk_drew ?_ | refine blk_alloc ?_ _)); exact BK174.out), (by (with_reducible repeat (first | refine blk_drewN ?_ _ | refine blk_drew ?_ | refine blk_alloc ?_ _)); exact BK188.out), GW188.out, GE188.out, NB172_188.out, NB188_172.out, NB173_188.out, NB188_173.out, NB174_188.out, NB188_174.out, (by repeat (first | (with_reducible first | exact HB.out | apply below_alloc | apply pw_below_drewN | apply below_drew1 | refine below_set ?_ GE172.out | refine below_set ?_ GE173.out | refine below_set ?_ GE174.out | refine below_set ?_ GE188.out) | exact HB.out))⟩)
                              · skip
                                rintro gb188 w82 ⟨hS_, h0_, h1_, h2_, h3_, h4_, h5_, h6_, h7_, h8_, h9_, h10_, h11_, h12_⟩
                                have n0_ : Aside0 (w82.heap[gb172]? = some (.cells #[.int .i64 a2_0, .int .i64 a2_1, .int .i64 a2_2] 52 (0, 0))) := ⟨h0_⟩
                                have n1_ : Aside0 (w82.heap[gb173]? = some (.cells #[.int .i64 x174000_2, .int .i64 x174001_2, .int .i64 x174002_2] 28 (0, 0))) := ⟨h1_⟩
                                have n2_ : Aside0 (w82.heap[gb174]? = some (.cells #[.int .i64 a2_1, .int .i64 a2_2] 71 (0, 0))) := ⟨h2_⟩
                                have n3_ : Aside0 (w82.heap[gb188]? = some (.cells #[.int .i64 0, .int .i64 0, .int .i64 0] 28 (0, 0))) := ⟨h3_⟩
                                have n4_ : Aside0 (w.heap.size ≤ gb188) := ⟨h4_⟩
                                have n5_ : Aside0 (w.heap.size ≤ gb188) := ⟨h5_⟩
                                have n6_ : Aside0 (gb172 ≠ gb188) := ⟨h6_⟩
                                have n7_ : Aside0 (gb188 ≠ gb172) := ⟨h7_⟩
                                have n8_ : Aside0 (gb173 ≠ gb188) := ⟨h8_⟩
                                have n9_ : Aside0 (gb188 ≠ gb173) := ⟨h9_⟩
                                have n10_ : Aside0 (gb174 ≠ gb188) := ⟨h10_⟩
                                have n11_ : Aside0 (gb188 ≠ gb174) := ⟨h11_⟩
                                have n12_ : Aside0 (Below w.heap.size w w82) := ⟨h12_⟩
                                clear BK172
                                clear BK173
                                clear BK174
                                clear HB
                                clear h0_ h1_ h2_ h3_ h4_ h5_ h6_ h7_ h8_ h9_ h10_ h11_ h12_
                                have BK172 := n0_
                                have BK173 := n1_
                                have BK174 := n2_
                                have BK188 := n3_
                                have GW188 := n4_
                                have GE188 := n5_
                                have NB172_188 := n6_
                                have NB188_172 := n7_
                                have NB173_188 := n8_
                                have NB188_173 := n9_
                                have NB174_188 := n10_
                                have NB188_174 := n11_
                                have HB := n12_
                                clear n0_ n1_ n2_ n3_ n4_ n5_ n6_ n7_ n8_ n9_ n10_ n11_ n12_
                                have hHeld : w82.cell? ⟨gb174, 0, none⟩ = some (.int .i64 a2_1) ∧ w82.cell? ⟨gb174, 1, none⟩ = some (.int .i64 a2_2) := hS_
                                refine norm_ (a' := ?_) ?_ ?_
                                rotate_left
                                · simp only [putAll, Act.put, List.setIfInBounds_toArray, List.set_cons_zero, List.set_cons_succ]
                                  rfl
                                refine one_ (i := 12) (N := some 87) #[true, true, true, true, true, true, true, true, true, true, true, true, true, false, true, false, true, true, true, true, true, false, false, false, false, true, false] rfl rfl (one_of HT_.out (by kernel_rfl)) (by decide) (fun K hK => ?_)
                                refine goes_ Try.func35 (by kernel_rfl) rfl #[.agg #[.int .i64 a2_1, .int .i64 a2_2]] (by rfl) rfl rfl (by (try simp only [List.map_toArray, List.map_cons, List.map_nil]); first | done | rfl | (simp only [List.length_drop, List.length_take]; rfl)) ?_
                                with_reducible refine (score_weights_product.calls a2_1 a2_2 t186 _ A74.out).mono ?_
                                rintro e w83 ⟨rfl, hb⟩
                                refine ⟨_, rfl, ?_⟩
                                have n0_ := Aside0.mk (blk_below (g := gb172) (o := .cells #[.int .i64 a2_0, .int .i64 a2_1, .int .i64 a2_2] 52 (0, 0)) (by (with_reducible repeat (first | refine blk_drewN ?_ _ | refine blk_drew ?_ | refine blk_alloc ?_ _)); exact BK172.out) hb)
                                have n1_ := Aside0.mk (blk_below (g := gb173) (o := .cells #[.int .i64 x174000_2, .int .i64 x174001_2, .int .i64 x174002_2] 28 (0, 0)) (by (with_reducible repeat (first | refine blk_drewN ?_ _ | refine blk_drew ?_ | refine blk_alloc ?_ _)); exact BK173.out) hb)
                                have n2_ := Aside0.mk (blk_below (g := gb174) (o := .cells #[.int .i64 a2_1, .int .i64 a2_2] 71 (0, 0)) (by (with_reducible repeat (first | refine blk_drewN ?_ _ | refine blk_drew ?_ | refine blk_alloc ?_ _)); exact BK174.out) hb)
                                have n3_ := Aside0.mk (blk_below (g := gb188) (o := .cells #[.int .i64 0, .int .i64 0, .int .i64 0] 28 (0, 0)) (by (with_reducible repeat (first | refine blk_drewN ?_ _ | refine blk_drew ?_ | refine blk_alloc ?_ _)); exact BK188.out) hb)
                                have n4_ := Aside0.mk (below_step (by repeat (first | (with_reducible first | exact HB.out | apply below_alloc | apply pw_below_drewN | apply below_drew1 | refine below_set ?_ GE172.out | refine below_set ?_ GE173.out | refine below_set ?_ GE174.out | refine below_set ?_ GE188.out) | exact HB.out)) hb)
                                clear BK172
                                clear BK173
                                clear BK174
                                clear BK188
                                clear HB
                                have BK172 := n0_
                                have BK173 := n1_
                                have BK174 := n2_
                                have BK188 := n3_
                                have HB := n4_
                                clear n0_ n1_ n2_ n3_ n4_
                                (try clear hb)
                                (try clear hb2)
                                (try clear hk)
                                (try clear hi)
                                refine hK.out _ _ ⟨(blk_cell BK174.out 0).trans rfl, (blk_cell BK174.out 1).trans rfl⟩ (fun hHeld => ?_)
                                clear hK K
                                refine norm_ (a' := ?_) ?_ ?_
                                rotate_left
                                · show Act.put _ (some 87) _ = _
                                  simp only [Act.put, List.setIfInBounds_toArray, List.set_cons_zero, List.set_cons_succ, i64_w, i32_w]
                                  rfl
                                refine pure_ (i := 13) (N := some 88) (v := ?_) (a' := ?_) #[true, true, true, true, true, true, true, true, true, true, true, true, true, true, true, false, true, true, true, true, true, false, false, false, false, true, false] rfl rfl (any_of HT_.out (by kernel_rfl)) (fun _ _ _ h => h) (Or.inl ⟨by rfl, ?_⟩) ?_ ?_
                                rotate_left
                                · intro w'
                                  go_simp
                                  with_reducible rfl
                                rotate_left
                                · simp only [Act.put, List.setIfInBounds_toArray, List.set_cons_zero, List.set_cons_succ, i64_w, i32_w]
                                  rfl
                                exact norm_ (by first | (simp only [putAll, Act.put, List.setIfInBounds_toArray, List.set_cons_zero, List.set_cons_succ]; done) | (simp only [putAll, Act.put, List.setIfInBounds_toArray, List.set_cons_zero, List.set_cons_succ]; rfl)) (hJ1_7_12_25 (gb188) _ ⟨hHeld, (by (with_reducible repeat (first | refine blk_drewN ?_ _ | refine blk_drew ?_ | refine blk_alloc ?_ _)); exact BK172.out), (by (with_reducible repeat (first | refine blk_drewN ?_ _ | refine blk_drew ?_ | refine blk_alloc ?_ _)); exact BK173.out), (by (with_reducible repeat (first | refine blk_drewN ?_ _ | refine blk_drew ?_ | refine blk_alloc ?_ _)); exact BK174.out), (by (with_reducible repeat (first | refine blk_drewN ?_ _ | refine blk_drew ?_ | refine blk_alloc ?_ _)); exact BK188.out), GW188.out, GE188.out, NB172_188.out, NB188_172.out, NB173_188.out, NB188_173.out, NB174_188.out, NB188_174.out, (by repeat (first | (with_reducible first | exact HB.out | apply below_alloc | apply pw_below_drewN | apply below_drew1 | refine below_set ?_ GE172.out | refine below_set ?_ GE173.out | refine below_set ?_ GE174.out | refine below_set ?_ GE188.out) | exact HB.out))⟩)
                            · skip
                              rintro _ w82 ⟨hS_, h0_, h1_, h2_, h3_⟩
                              have n0_ : Aside0 (w82.heap[gb172]? = some (.cells #[.int .i64 a2_0, .int .i64 a2_1, .int .i64 a2_2] 52 (0, 0))) := ⟨h0_⟩
                              have n1_ : Aside0 (w82.heap[gb173]? = some (.cells #[.int .i64 x174000_2, .int .i64 x174001_2, .int .i64 x174002_2] 28 (0, 0))) := ⟨h1_⟩
                              have n2_ : Aside0 (w82.heap[gb174]? = some (.cells #[.int .i64 a2_1, .int .i64 a2_2] 71 (0, 0))) := ⟨h2_⟩
                              have n3_ : Aside0 (Below w.heap.size w w82) := ⟨h3_⟩
                              clear BK172
                              clear BK173
                              clear BK174
                              clear HB
                              clear h0_ h1_ h2_ h3_
                              have BK172 := n0_
                              have BK173 := n1_
                              have BK174 := n2_
                              have HB := n3_
                              clear n0_ n1_ n2_ n3_
                              have hHeld : w82.cell? ⟨gb174, 0, none⟩ = some (.int .i64 a2_1) ∧ w82.cell? ⟨gb174, 1, none⟩ = some (.int .i64 a2_2) := hS_
                              refine norm_ (a' := ?_) ?_ ?_
                              rotate_left
                              · simp only [putAll, Act.put, List.setIfInBounds_toArray, List.set_cons_zero, List.set_cons_succ]
                                rfl
                              refine two_ (i := 15) (j := 25) (Ni := some 90) (Nj := some 17) #[true, true, true, true, true, true, true, true, true, true, true, true, true, true, true, true, true, true, true, true, true, false, false, false, false, false, false] #[true, true, true, true, true, true, true, true, true, true, true, true, true, true, true, false, true, true, true, true, true, false, false, false, false, true, false] rfl rfl rfl rfl (two_of HT_.out (by kernel_rfl)) (by decide) (by decide) (fun K hK => ?_) (fun K hK => ?_)
                              · skip
                                refine goes_ Try.func36 (by kernel_rfl) rfl #[.agg #[.int .i64 a2_1, .int .i64 a2_2]] (by rfl) rfl rfl (by (try simp only [List.map_toArray, List.map_cons, List.map_nil]); first | done | rfl | (simp only [List.length_drop, List.length_take]; rfl)) ?_
                                with_reducible refine (score_weights_sum.calls a2_1 a2_2 t187 _ A75.out).mono ?_
                                rintro e w83 ⟨rfl, hb⟩
                                refine ⟨_, rfl, ?_⟩
                                have n0_ := Aside0.mk (blk_below (g := gb172) (o := .cells #[.int .i64 a2_0, .int .i64 a2_1, .int .i64 a2_2] 52 (0, 0)) (by (with_reducible repeat (first | refine blk_drewN ?_ _ | refine blk_drew ?_ | refine blk_alloc ?_ _)); exact BK172.out) hb)
                                have n1_ := Aside0.mk (blk_below (g := gb173) (o := .cells #[.int .i64 x174000_2, .int .i64 x174001_2, .int .i64 x174002_2] 28 (0, 0)) (by (with_reducible repeat (first | refine blk_drewN ?_ _ | refine blk_drew ?_ | refine blk_alloc ?_ _)); exact BK173.out) hb)
                                have n2_ := Aside0.mk (blk_below (g := gb174) (o := .cells #[.int .i64 a2_1, .int .i64 a2_2] 71 (0, 0)) (by (with_reducible repeat (first | refine blk_drewN ?_ _ | refine blk_drew ?_ | refine blk_alloc ?_ _)); exact BK174.out) hb)
                                have n3_ := Aside0.mk (below_step (by repeat (first | (with_reducible first | exact HB.out | apply below_alloc | apply pw_below_drewN | apply below_drew1 | refine below_set ?_ GE172.out | refine below_set ?_ GE173.out | refine below_set ?_ GE174.out) | exact HB.out)) hb)
                                clear BK172
                                clear BK173
                                clear BK174
                                clear HB
                                have BK172 := n0_
                                have BK173 := n1_
                                have BK174 := n2_
                                have HB := n3_
                                clear n0_ n1_ n2_ n3_
                                (try clear hb)
                                (try clear hb2)
                                (try clear hk)
                                (try clear hi)
                                refine hK.out _ _ ⟨(blk_cell BK174.out 0).trans rfl, (blk_cell BK174.out 1).trans rfl⟩ (fun hHeld => ?_)
                                clear hK K
                                refine norm_ (a' := ?_) ?_ ?_
                                rotate_left
                                · show Act.put _ (some 90) _ = _
                                  simp only [Act.put, List.setIfInBounds_toArray, List.set_cons_zero, List.set_cons_succ, i64_w, i32_w]
                                  rfl
                                refine pure_ (i := 21) (N := some 96) (v := ?_) (a' := ?_) #[true, true, true, true, true, true, true, true, true, true, true, true, true, true, true, true, true, true, true, true, true, true, false, false, false, false, false] rfl rfl (any_of HT_.out (by kernel_rfl)) (fun _ _ _ h => h) (Or.inl ⟨by rfl, ?_⟩) ?_ ?_
                                rotate_left
                                · intro w'
                                  go_simp
                                  with_reducible rfl
                                rotate_left
                                · simp only [Act.put, List.setIfInBounds_toArray, List.set_cons_zero, List.set_cons_succ, i64_w, i32_w]
                                  rfl
                                refine pure_ (i := 22) (N := some 97) (v := ?_) (a' := ?_) #[true, true, true, true, true, true, true, true, true, true, true, true, true, true, true, true, true, true, true, true, true, true, true, false, false, false, false] rfl rfl (any_of HT_.out (by kernel_rfl)) (fun _ _ _ h => h) (Or.inl ⟨by rfl, ?_⟩) ?_ ?_
                                rotate_left
                                · intro w'
                                  go_simp
                                  with_reducible rfl
                                rotate_left
                                · simp only [Act.put, List.setIfInBounds_toArray, List.set_cons_zero, List.set_cons_succ, i64_w, i32_w]
                                  rfl
                                refine pure_ (i := 23) (N := some 98) (v := ?_) (a' := ?_) #[true, true, true, true, true, true, true, true, true, true, true, true, true, true, true, true, true, true, true, true, true, true, true, true, false, false, false] rfl rfl (any_of HT_.out (by kernel_rfl)) (fun _ _ _ h => h) (Or.inl ⟨by rfl, ?_⟩) ?_ ?_
                                rotate_left
                                · intro w'
                                  go_simp
                                  with_reducible rfl
                                rotate_left
                                · simp only [Act.put, List.setIfInBounds_toArray, List.set_cons_zero, List.set_cons_succ, i64_w, i32_w]
                                  rfl
                                refine pure_ (i := 24) (N := some 99) (v := ?_) (a' := ?_) #[true, true, true, true, true, true, true, true, true, true, true, true, true, true, true, true, true, true, true, true, true, true, true, true, true, false, false] rfl rfl (any_of HT_.out (by kernel_rfl)) (fun _ _ _ h => h) (Or.inl ⟨by rfl, ?_⟩) ?_ ?_
                                rotate_left
                                · intro w'
                                  go_simp
                                  with_reducible rfl
                                rotate_left
                                · simp only [Act.put, List.setIfInBounds_toArray, List.set_cons_zero, List.set_cons_succ, i64_w, i32_w]
                                  rfl
                                exact norm_ (by first | (simp only [putAll, Act.put, List.setIfInBounds_toArray, List.set_cons_zero, List.set_cons_succ]; done) | (simp only [putAll, Act.put, List.setIfInBounds_toArray, List.set_cons_zero, List.set_cons_succ]; rfl)) (hJ1_7_12_15 () _ ⟨hHeld, (by (with_reducible repeat (first | refine blk_drewN ?_ _ | refine blk_drew ?_ | refine blk_alloc ?_ _)); exact BK172.out), (by (with_reducible repeat (first | refine blk_drewN ?_ _ | refine blk_drew ?_ | refine blk_alloc ?_ _)); exact BK173.out), (by (with_reducible repeat (first | refine blk_drewN ?_ _ | refine blk_drew ?_ | refine blk_alloc ?_ _)); exact BK174.out), (by repeat (first | (with_reducible first | exact HB.out | apply below_alloc | apply pw_below_drewN | apply below_drew1 | refine below_set ?_ GE172.out | refine below_set ?_ GE173.out | refine below_set ?_ GE174.out) | exact HB.out))⟩)
                              · skip
                                refine box_step ?hg (N := 17) ?hd (cs := #[.int .i64 0, .int .i64 0, .int .i64 0]) (t := 28) ?hr ?_; (case hd => rfl); (case hg => rfl); (case hr => first | (go_simp; done) | (go_simp; rfl))
                                intro gb188 hg w83 hbox hb
                                have n0_ := Aside0.mk (blk_below (g := gb172) (o := .cells #[.int .i64 a2_0, .int .i64 a2_1, .int .i64 a2_2] 52 (0, 0)) (by (with_reducible repeat (first | refine blk_drewN ?_ _ | refine blk_drew ?_ | refine blk_alloc ?_ _)); exact BK172.out) hb)
                                have n1_ := Aside0.mk (blk_below (g := gb173) (o := .cells #[.int .i64 x174000_2, .int .i64 x174001_2, .int .i64 x174002_2] 28 (0, 0)) (by (with_reducible repeat (first | refine blk_drewN ?_ _ | refine blk_drew ?_ | refine blk_alloc ?_ _)); exact BK173.out) hb)
                                have n2_ := Aside0.mk (blk_below (g := gb174) (o := .cells #[.int .i64 a2_1, .int .i64 a2_2] 71 (0, 0)) (by (with_reducible repeat (first | refine blk_drewN ?_ _ | refine blk_drew ?_ | refine blk_alloc ?_ _)); exact BK174.out) hb)
                                have n3_ := Aside0.mk (below_step (by repeat (first | (with_reducible first | exact HB.out | apply below_alloc | apply pw_below_drewN | apply below_drew1 | refine below_set ?_ GE172.out | refine below_set ?_ GE173.out | refine below_set ?_ GE174.out) | exact HB.out)) hb)
                                have n4_ := Aside0.mk (hbox)
                                have n5_ := Aside0.mk ((by rw [hg]; exact (below_size (by repeat (first | (with_reducible first | exact HB.out | apply below_alloc | apply pw_below_drewN | apply below_drew1 | refine below_set ?_ GE172.out | refine below_set ?_ GE173.out | refine below_set ?_ GE174.out) | exact HB.out))) : w.heap.size ≤ gb188))
                                have n6_ := Aside0.mk ((by rw [hg]; exact (below_size (by repeat (first | (with_reducible first | exact HB.out | apply below_alloc | apply pw_below_drewN | apply below_drew1 | refine below_set ?_ GE172.out | refine below_set ?_ GE173.out | refine below_set ?_ GE174.out) | exact HB.out))) : w.heap.size ≤ gb188))
                                have n7_ := Aside0.mk ((by rw [hg]; exact Nat.ne_of_lt (blk_lt (g := gb172) (o := .cells #[.int .i64 a2_0, .int .i64 a2_1, .int .i64 a2_2] 52 (0, 0)) (by (with_reducible repeat (first | refine blk_drewN ?_ _ | refine blk_drew ?_ | refine blk_alloc ?_ _)); exact BK172.out)) : gb172 ≠ gb188))
                                have n8_ := Aside0.mk ((by rw [hg]; exact Nat.ne_of_gt (blk_lt (g := gb172) (o := .cells #[.int .i64 a2_0, .int .i64 a2_1, .int .i64 a2_2] 52 (0, 0)) (by (with_reducible repeat (first | refine blk_drewN ?_ _ | refine blk_drew ?_ | refine blk_alloc ?_ _)); exact BK172.out)) : gb188 ≠ gb172))
                                have n9_ := Aside0.mk ((by rw [hg]; exact Nat.ne_of_lt (blk_lt (g := gb173) (o := .cells #[.int .i64 x174000_2, .int .i64 x174001_2, .int .i64 x174002_2] 28 (0, 0)) (by (with_reducible repeat (first | refine blk_drewN ?_ _ | refine blk_drew ?_ | refine blk_alloc ?_ _)); exact BK173.out)) : gb173 ≠ gb188))
                                have n10_ := Aside0.mk ((by rw [hg]; exact Nat.ne_of_gt (blk_lt (g := gb173) (o := .cells #[.int .i64 x174000_2, .int .i64 x174001_2, .int .i64 x174002_2] 28 (0, 0)) (by (with_reducible repeat (first | refine blk_drewN ?_ _ | refine blk_drew ?_ | refine blk_alloc ?_ _)); exact BK173.out)) : gb188 ≠ gb173))
                                have n11_ := Aside0.mk ((by rw [hg]; exact Nat.ne_of_lt (blk_lt (g := gb174) (o := .cells #[.int .i64 a2_1, .int .i64 a2_2] 71 (0, 0)) (by (with_reducible repeat (first | refine blk_drewN ?_ _ | refine blk_drew ?_ | refine blk_alloc ?_ _)); exact BK174.out)) : gb174 ≠ gb188))
                                have n12_ := Aside0.mk ((by rw [hg]; exact Nat.ne_of_gt (blk_lt (g := gb174) (o := .cells #[.int .i64 a2_1, .int .i64 a2_2] 71 (0, 0)) (by (with_reducible repeat (first | refine blk_drewN ?_ _ | refine blk_drew ?_ | refine blk_alloc ?_ _)); exact BK174.out)) : gb188 ≠ gb174))
                                clear BK172
                                clear BK173
                                clear BK174
                                clear HB
                                have BK172 := n0_
                                have BK173 := n1_
                                have BK174 := n2_
                                have HB := n3_
                                have BK188 := n4_
                                have GW188 := n5_
                                have GE188 := n6_
                                have NB172_188 := n7_
                                have NB188_172 := n8_
                                have NB173_188 := n9_
                                have NB188_173 := n10_
                                have NB174_188 := n11_
                                have NB188_174 := n12_
                                clear n0_ n1_ n2_ n3_ n4_ n5_ n6_ n7_ n8_ n9_ n10_ n11_ n12_
                                clear hb hbox hg
                                refine hK.out _ _ ⟨(blk_cell BK174.out 0).trans rfl, (blk_cell BK174.out 1).trans rfl⟩ (fun hHeld => ?_)
                                clear hK K
                                refine norm_ (a' := ?_) ?_ ?_
                                rotate_left
                                · show Act.put _ (some 17) _ = _
                                  simp only [Act.put, List.setIfInBounds_toArray, List.set_cons_zero, List.set_cons_succ, i64_w, i32_w]
                                  rfl
                                exact norm_ (by first | (simp only [putAll, Act.put, List.setIfInBounds_toArray, List.set_cons_zero, List.set_cons_succ]; done) | (simp only [putAll, Act.put, List.setIfInBounds_toArray, List.set_cons_zero, List.set_cons_succ]; rfl)) (hJ1_7_12_25 (gb188) _ ⟨hHeld, (by (with_reducible repeat (first | refine blk_drewN ?_ _ | refine blk_drew ?_ | refine blk_alloc ?_ _)); exact BK172.out), (by (with_reducible repeat (first | refine blk_drewN ?_ _ | refine blk_drew ?_ | refine blk_alloc ?_ _)); exact BK173.out), (by (with_reducible repeat (first | refine blk_drewN ?_ _ | refine blk_drew ?_ | refine blk_alloc ?_ _)); exact BK174.out), (by (with_reducible repeat (first | refine blk_drewN ?_ _ | refine blk_drew ?_ | refine blk_alloc ?_ _)); exact BK188.out), GW188.out, GE188.out, NB172_188.out, NB188_172.out, NB173_188.out, NB188_173.out, NB174_188.out, NB188_174.out, (by repeat (first | (with_reducible first | exact HB.out | apply below_alloc | apply pw_below_drewN | apply below_drew1 | refine below_set ?_ GE172.out | refine below_set ?_ GE173.out | refine below_set ?_ GE174.out | refine below_set ?_ GE188.out) | exact HB.out))⟩)
                          · skip
                            rintro gb188 w83 ⟨hS_, h0_, h1_, h2_, h3_, h4_, h5_, h6_, h7_, h8_, h9_, h10_, h11_, h12_⟩
                            have n0_ : Aside0 (w83.heap[gb172]? = some (.cells #[.int .i64 a2_0, .int .i64 a2_1, .int .i64 a2_2] 52 (0, 0))) := ⟨h0_⟩
                            have n1_ : Aside0 (w83.heap[gb173]? = some (.cells #[.int .i64 x174000_2, .int .i64 x174001_2, .int .i64 x174002_2] 28 (0, 0))) := ⟨h1_⟩
                            have n2_ : Aside0 (w83.heap[gb174]? = some (.cells #[.int .i64 a2_1, .int .i64 a2_2] 71 (0, 0))) := ⟨h2_⟩
                            have n3_ : Aside0 (w83.heap[gb188]? = some (.cells #[.int .i64 0, .int .i64 0, .int .i64 0] 28 (0, 0))) := ⟨h3_⟩
                            have n4_ : Aside0 (w.heap.size ≤ gb188) := ⟨h4_⟩
                            have n5_ : Aside0 (w.heap.size ≤ gb188) := ⟨h5_⟩
                            have n6_ : Aside0 (gb172 ≠ gb188) := ⟨h6_⟩
                            have n7_ : Aside0 (gb188 ≠ gb172) := ⟨h7_⟩
                            have n8_ : Aside0 (gb173 ≠ gb188) := ⟨h8_⟩
                            have n9_ : Aside0 (gb188 ≠ gb173) := ⟨h9_⟩
                            have n10_ : Aside0 (gb174 ≠ gb188) := ⟨h10_⟩
                            have n11_ : Aside0 (gb188 ≠ gb174) := ⟨h11_⟩
                            have n12_ : Aside0 (Below w.heap.size w w83) := ⟨h12_⟩
                            clear BK172
                            clear BK173
                            clear BK174
                            clear HB
                            clear h0_ h1_ h2_ h3_ h4_ h5_ h6_ h7_ h8_ h9_ h10_ h11_ h12_
                            have BK172 := n0_
                            have BK173 := n1_
                            have BK174 := n2_
                            have BK188 := n3_
                            have GW188 := n4_
                            have GE188 := n5_
                            have NB172_188 := n6_
                            have NB188_172 := n7_
                            have NB173_188 := n8_
                            have NB188_173 := n9_
                            have NB174_188 := n10_
                            have NB188_174 := n11_
                            have HB := n12_
                            clear n0_ n1_ n2_ n3_ n4_ n5_ n6_ n7_ n8_ n9_ n10_ n11_ n12_
                            have hHeld : w83.cell? ⟨gb174, 0, none⟩ = some (.int .i64 a2_1) ∧ w83.cell? ⟨gb174, 1, none⟩ = some (.int .i64 a2_2) := hS_
                            refine norm_ (a' := ?_) ?_ ?_
                            rotate_left
                            · simp only [putAll, Act.put, List.setIfInBounds_toArray, List.set_cons_zero, List.set_cons_succ]
                              rfl
                            refine one_ (i := 15) (N := some 90) #[true, true, true, true, true, true, true, true, true, true, true, true, true, true, true, true, true, true, true, true, true, false, false, false, false, true, false] rfl rfl (one_of HT_.out (by kernel_rfl)) (by decide) (fun K hK => ?_)
                            refine goes_ Try.func36 (by kernel_rfl) rfl #[.agg #[.int .i64 a2_1, .int .i64 a2_2]] (by rfl) rfl rfl (by (try simp only [List.map_toArray, List.map_cons, List.map_nil]); first | done | rfl | (simp only [List.length_drop, List.length_take]; rfl)) ?_
                            with_reducible refine (score_weights_sum.calls a2_1 a2_2 t187 _ A75.out).mono ?_
                            rintro e w84 ⟨rfl, hb⟩
                            refine ⟨_, rfl, ?_⟩
                            have n0_ := Aside0.mk (blk_below (g := gb172) (o := .cells #[.int .i64 a2_0, .int .i64 a2_1, .int .i64 a2_2] 52 (0, 0)) (by (with_reducible repeat (first | refine blk_drewN ?_ _ | refine blk_drew ?_ | refine blk_alloc ?_ _)); exact BK172.out) hb)
                            have n1_ := Aside0.mk (blk_below (g := gb173) (o := .cells #[.int .i64 x174000_2, .int .i64 x174001_2, .int .i64 x174002_2] 28 (0, 0)) (by (with_reducible repeat (first | refine blk_drewN ?_ _ | refine blk_drew ?_ | refine blk_alloc ?_ _)); exact BK173.out) hb)
                            have n2_ := Aside0.mk (blk_below (g := gb174) (o := .cells #[.int .i64 a2_1, .int .i64 a2_2] 71 (0, 0)) (by (with_reducible repeat (first | refine blk_drewN ?_ _ | refine blk_drew ?_ | refine blk_alloc ?_ _)); exact BK174.out) hb)
                            have n3_ := Aside0.mk (blk_below (g := gb188) (o := .cells #[.int .i64 0, .int .i64 0, .int .i64 0] 28 (0, 0)) (by (with_reducible repeat (first | refine blk_drewN ?_ _ | refine blk_drew ?_ | refine blk_alloc ?_ _)); exact BK188.out) hb)
                            have n4_ := Aside0.mk (below_step (by repeat (first | (with_reducible first | exact HB.out | apply below_alloc | apply pw_below_drewN | apply below_drew1 | refine below_set ?_ GE172.out | refine below_set ?_ GE173.out | refine below_set ?_ GE174.out | refine below_set ?_ GE188.out) | exact HB.out)) hb)
                            clear BK172
                            clear BK173
                            clear BK174
                            clear BK188
                            clear HB
                            have BK172 := n0_
                            have BK173 := n1_
                            have BK174 := n2_
                            have BK188 := n3_
                            have HB := n4_
                            clear n0_ n1_ n2_ n3_ n4_
                            (try clear hb)
                            (try clear hb2)
                            (try clear hk)
                            (try clear hi)
                            refine hK.out _ _ ⟨(blk_cell BK174.out 0).trans rfl, (blk_cell BK174.out 1).trans rfl⟩ (fun hHeld => ?_)
                            clear hK K
                            refine norm_ (a' := ?_) ?_ ?_
                            rotate_left
                            · show Act.put _ (some 90) _ = _
                              simp only [Act.put, List.setIfInBounds_toArray, List.set_cons_zero, List.set_cons_succ, i64_w, i32_w]
                              rfl
                            refine pure_ (i := 21) (N := some 96) (v := ?_) (a' := ?_) #[true, true, true, true, true, true, true, true, true, true, true, true, true, true, true, true, true, true, true, true, true, true, false, false, false, true, false] rfl rfl (any_of HT_.out (by kernel_rfl)) (fun _ _ _ h => h) (Or.inl ⟨by rfl, ?_⟩) ?_ ?_
                            rotate_left
                            · intro w'
                              go_simp
                              with_reducible rfl
                            rotate_left
                            · simp only [Act.put, List.setIfInBounds_toArray, List.set_cons_zero, List.set_cons_succ, i64_w, i32_w]
                              rfl
                            refine pure_ (i := 22) (N := some 97) (v := ?_) (a' := ?_) #[true, true, true, true, true, true, true, true, true, true, true, true, true, true, true, true, true, true, true, true, true, true, true, false, false, true, false] rfl rfl (any_of HT_.out (by kernel_rfl)) (fun _ _ _ h => h) (Or.inl ⟨by rfl, ?_⟩) ?_ ?_
                            rotate_left
                            · intro w'
                              go_simp
                              with_reducible rfl
                            rotate_left
                            · simp only [Act.put, List.setIfInBounds_toArray, List.set_cons_zero, List.set_cons_succ, i64_w, i32_w]
                              rfl
                            refine pure_ (i := 23) (N := some 98) (v := ?_) (a' := ?_) #[true, true, true, true, true, true, true, true, true, true, true, true, true, true, true, true, true, true, true, true, true, true, true, true, false, true, false] rfl rfl (any_of HT_.out (by kernel_rfl)) (fun _ _ _ h => h) (Or.inl ⟨by rfl, ?_⟩) ?_ ?_
                            rotate_left
                            · intro w'
                              go_simp
                              with_reducible rfl
                            rotate_left
                            · simp only [Act.put, List.setIfInBounds_toArray, List.set_cons_zero, List.set_cons_succ, i64_w, i32_w]
                              rfl
                            refine pure_ (i := 24) (N := some 99) (v := ?_) (a' := ?_) #[true, true, true, true, true, true, true, true, true, true, true, true, true, true, true, true, true, true, true, true, true, true, true, true, true, true, false] rfl rfl (any_of HT_.out (by kernel_rfl)) (fun _ _ _ h => h) (Or.inl ⟨by rfl, ?_⟩) ?_ ?_
                            rotate_left
                            · intro w'
                              go_simp
                              with_reducible rfl
                            rotate_left
                            · simp only [Act.put, List.setIfInBounds_toArray, List.set_cons_zero, List.set_cons_succ, i64_w, i32_w]
                              rfl
                            exact norm_ (by first | (simp only [putAll, Act.put, List.setIfInBounds_toArray, List.set_cons_zero, List.set_cons_succ]; done) | (simp only [putAll, Act.put, List.setIfInBounds_toArray, List.set_cons_zero, List.set_cons_succ]; rfl)) (hJ1_7_12_15_25 (gb188) _ ⟨hHeld, (by (with_reducible repeat (first | refine blk_drewN ?_ _ | refine blk_drew ?_ | refine blk_alloc ?_ _)); exact BK172.out), (by (with_reducible repeat (first | refine blk_drewN ?_ _ | refine blk_drew ?_ | refine blk_alloc ?_ _)); exact BK173.out), (by (with_reducible repeat (first | refine blk_drewN ?_ _ | refine blk_drew ?_ | refine blk_alloc ?_ _)); exact BK174.out), (by (with_reducible repeat (first | refine blk_drewN ?_ _ | refine blk_drew ?_ | refine blk_alloc ?_ _)); exact BK188.out), GW188.out, GE188.out, NB172_188.out, NB188_172.out, NB173_188.out, NB188_173.out, NB174_188.out, NB188_174.out, (by repeat (first | (with_reducible first | exact HB.out | apply below_alloc | apply pw_below_drewN | apply below_drew1 | refine below_set ?_ GE172.out | refine below_set ?_ GE173.out | refine below_set ?_ GE174.out | refine below_set ?_ GE188.out) | exact HB.out))⟩)
                        · skip
                          rintro _ w83 ⟨hS_, h0_, h1_, h2_, h3_⟩
                          have n0_ : Aside0 (w83.heap[gb172]? = some (.cells #[.int .i64 a2_0, .int .i64 a2_1, .int .i64 a2_2] 52 (0, 0))) := ⟨h0_⟩
                          have n1_ : Aside0 (w83.heap[gb173]? = some (.cells #[.int .i64 x174000_2, .int .i64 x174001_2, .int .i64 x174002_2] 28 (0, 0))) := ⟨h1_⟩
                          have n2_ : Aside0 (w83.heap[gb174]? = some (.cells #[.int .i64 a2_1, .int .i64 a2_2] 71 (0, 0))) := ⟨h2_⟩
                          have n3_ : Aside0 (Below w.heap.size w w83) := ⟨h3_⟩
                          clear BK172
                          clear BK173
                          clear BK174
                          clear HB
                          clear h0_ h1_ h2_ h3_
                          have BK172 := n0_
                          have BK173 := n1_
                          have BK174 := n2_
                          have HB := n3_
                          clear n0_ n1_ n2_ n3_
                          have hHeld : w83.cell? ⟨gb174, 0, none⟩ = some (.int .i64 a2_1) ∧ w83.cell? ⟨gb174, 1, none⟩ = some (.int .i64 a2_2) := hS_
                          refine norm_ (a' := ?_) ?_ ?_
                          rotate_left
                          · simp only [putAll, Act.put, List.setIfInBounds_toArray, List.set_cons_zero, List.set_cons_succ]
                            rfl
                          refine one_ (i := 25) (N := some 17) #[true, true, true, true, true, true, true, true, true, true, true, true, true, true, true, true, true, true, true, true, true, true, true, true, true, true, false] rfl rfl (one_of HT_.out (by kernel_rfl)) (by decide) (fun K hK => ?_)
                          refine box_step ?hg (N := 17) ?hd (cs := #[.int .i64 0, .int .i64 0, .int .i64 0]) (t := 28) ?hr ?_; (case hd => rfl); (case hg => rfl); (case hr => first | (go_simp; done) | (go_simp; rfl))
                          intro gb188 hg w84 hbox hb
                          have n0_ := Aside0.mk (blk_below (g := gb172) (o := .cells #[.int .i64 a2_0, .int .i64 a2_1, .int .i64 a2_2] 52 (0, 0)) (by (with_reducible repeat (first | refine blk_drewN ?_ _ | refine blk_drew ?_ | refine blk_alloc ?_ _)); exact BK172.out) hb)
                          have n1_ := Aside0.mk (blk_below (g := gb173) (o := .cells #[.int .i64 x174000_2, .int .i64 x174001_2, .int .i64 x174002_2] 28 (0, 0)) (by (with_reducible repeat (first | refine blk_drewN ?_ _ | refine blk_drew ?_ | refine blk_alloc ?_ _)); exact BK173.out) hb)
                          have n2_ := Aside0.mk (blk_below (g := gb174) (o := .cells #[.int .i64 a2_1, .int .i64 a2_2] 71 (0, 0)) (by (with_reducible repeat (first | refine blk_drewN ?_ _ | refine blk_drew ?_ | refine blk_alloc ?_ _)); exact BK174.out) hb)
                          have n3_ := Aside0.mk (below_step (by repeat (first | (with_reducible first | exact HB.out | apply below_alloc | apply pw_below_drewN | apply below_drew1 | refine below_set ?_ GE172.out | refine below_set ?_ GE173.out | refine below_set ?_ GE174.out) | exact HB.out)) hb)
                          have n4_ := Aside0.mk (hbox)
                          have n5_ := Aside0.mk ((by rw [hg]; exact (below_size (by repeat (first | (with_reducible first | exact HB.out | apply below_alloc | apply pw_below_drewN | apply below_drew1 | refine below_set ?_ GE172.out | refine below_set ?_ GE173.out | refine below_set ?_ GE174.out) | exact HB.out))) : w.heap.size ≤ gb188))
                          have n6_ := Aside0.mk ((by rw [hg]; exact (below_size (by repeat (first | (with_reducible first | exact HB.out | apply below_alloc | apply pw_below_drewN | apply below_drew1 | refine below_set ?_ GE172.out | refine below_set ?_ GE173.out | refine below_set ?_ GE174.out) | exact HB.out))) : w.heap.size ≤ gb188))
                          have n7_ := Aside0.mk ((by rw [hg]; exact Nat.ne_of_lt (blk_lt (g := gb172) (o := .cells #[.int .i64 a2_0, .int .i64 a2_1, .int .i64 a2_2] 52 (0, 0)) (by (with_reducible repeat (first | refine blk_drewN ?_ _ | refine blk_drew ?_ | refine blk_alloc ?_ _)); exact BK172.out)) : gb172 ≠ gb188))
                          have n8_ := Aside0.mk ((by rw [hg]; exact Nat.ne_of_gt (blk_lt (g := gb172) (o := .cells #[.int .i64 a2_0, .int .i64 a2_1, .int .i64 a2_2] 52 (0, 0)) (by (with_reducible repeat (first | refine blk_drewN ?_ _ | refine blk_drew ?_ | refine blk_alloc ?_ _)); exact BK172.out)) : gb188 ≠ gb172))
                          have n9_ := Aside0.mk ((by rw [hg]; exact Nat.ne_of_lt (blk_lt (g := gb173) (o := .cells #[.int .i64 x174000_2, .int .i64 x174001_2, .int .i64 x174002_2] 28 (0, 0)) (by (with_reducible repeat (first | refine blk_drewN ?_ _ | refine blk_drew ?_ | refine blk_alloc ?_ _)); exact BK173.out)) : gb173 ≠ gb188))
                          have n10_ := Aside0.mk ((by rw [hg]; exact Nat.ne_of_gt (blk_lt (g := gb173) (o := .cells #[.int .i64 x174000_2, .int .i64 x174001_2, .int .i64 x174002_2] 28 (0, 0)) (by (with_reducible repeat (first | refine blk_drewN ?_ _ | refine blk_drew ?_ | refine blk_alloc ?_ _)); exact BK173.out)) : gb188 ≠ gb173))
                          have n11_ := Aside0.mk ((by rw [hg]; exact Nat.ne_of_lt (blk_lt (g := gb174) (o := .cells #[.int .i64 a2_1, .int .i64 a2_2] 71 (0, 0)) (by (with_reducible repeat (first | refine blk_drewN ?_ _ | refine blk_drew ?_ | refine blk_alloc ?_ _)); exact BK174.out)) : gb174 ≠ gb188))
                          have n12_ := Aside0.mk ((by rw [hg]; exact Nat.ne_of_gt (blk_lt (g := gb174) (o := .cells #[.int .i64 a2_1, .int .i64 a2_2] 71 (0, 0)) (by (with_reducible repeat (first | refine blk_drewN ?_ _ | refine blk_drew ?_ | refine blk_alloc ?_ _)); exact BK174.out)) : gb188 ≠ gb174))
                          clear BK172
                          clear BK173
                          clear BK174
                          clear HB
                          have BK172 := n0_
                          have BK173 := n1_
                          have BK174 := n2_
                          have HB := n3_
                          have BK188 := n4_
                          have GW188 := n5_
                          have GE188 := n6_
                          have NB172_188 := n7_
                          have NB188_172 := n8_
                          have NB173_188 := n9_
                          have NB188_173 := n10_
                          have NB174_188 := n11_
                          have NB188_174 := n12_
                          clear n0_ n1_ n2_ n3_ n4_ n5_ n6_ n7_ n8_ n9_ n10_ n11_ n12_
                          clear hb hbox hg
                          refine hK.out _ _ ⟨(blk_cell BK174.out 0).trans rfl, (blk_cell BK174.out 1).trans rfl⟩ (fun hHeld => ?_)
                          clear hK K
                          refine norm_ (a' := ?_) ?_ ?_
                          rotate_left
                          · show Act.put _ (some 17) _ = _
                            simp only [Act.put, List.setIfInBounds_toArray, List.set_cons_zero, List.set_cons_succ, i64_w, i32_w]
                            rfl
                          exact norm_ (by first | (simp only [putAll, Act.put, List.setIfInBounds_toArray, List.set_cons_zero, List.set_cons_succ]; done) | (simp only [putAll, Act.put, List.setIfInBounds_toArray, List.set_cons_zero, List.set_cons_succ]; rfl)) (hJ1_7_12_15_25 (gb188) _ ⟨hHeld, (by (with_reducible repeat (first | refine blk_drewN ?_ _ | refine blk_drew ?_ | refine blk_alloc ?_ _)); exact BK172.out), (by (with_reducible repeat (first | refine blk_drewN ?_ _ | refine blk_drew ?_ | refine blk_alloc ?_ _)); exact BK173.out), (by (with_reducible repeat (first | refine blk_drewN ?_ _ | refine blk_drew ?_ | refine blk_alloc ?_ _)); exact BK174.out), (by (with_reducible repeat (first | refine blk_drewN ?_ _ | refine blk_drew ?_ | refine blk_alloc ?_ _)); exact BK188.out), GW188.out, GE188.out, NB172_188.out, NB188_172.out, NB173_188.out, NB188_173.out, NB174_188.out, NB188_174.out, (by repeat (first | (with_reducible first | exact HB.out | apply below_alloc | apply pw_below_drewN | apply below_drew1 | refine below_set ?_ GE172.out | refine below_set ?_ GE173.out | refine below_set ?_ GE174.out | refine below_set ?_ GE188.out) | exact HB.out))⟩)
                      rintro gb188 w84 ⟨hS_, h0_, h1_, h2_, h3_, h4_, h5_, h6_, h7_, h8_, h9_, h10_, h11_, h12_⟩
                      have n0_ : Aside0 (w84.heap[gb172]? = some (.cells #[.int .i64 a2_0, .int .i64 a2_1, .int .i64 a2_2] 52 (0, 0))) := ⟨h0_⟩
                      have n1_ : Aside0 (w84.heap[gb173]? = some (.cells #[.int .i64 x174000_2, .int .i64 x174001_2, .int .i64 x174002_2] 28 (0, 0))) := ⟨h1_⟩
                      have n2_ : Aside0 (w84.heap[gb174]? = some (.cells #[.int .i64 a2_1, .int .i64 a2_2] 71 (0, 0))) := ⟨h2_⟩
                      have n3_ : Aside0 (w84.heap[gb188]? = some (.cells #[.int .i64 0, .int .i64 0, .int .i64 0] 28 (0, 0))) := ⟨h3_⟩
                      have n4_ : Aside0 (w.heap.size ≤ gb188) := ⟨h4_⟩
                      have n5_ : Aside0 (w.heap.size ≤ gb188) := ⟨h5_⟩
                      have n6_ : Aside0 (gb172 ≠ gb188) := ⟨h6_⟩
                      have n7_ : Aside0 (gb188 ≠ gb172) := ⟨h7_⟩
                      have n8_ : Aside0 (gb173 ≠ gb188) := ⟨h8_⟩
                      have n9_ : Aside0 (gb188 ≠ gb173) := ⟨h9_⟩
                      have n10_ : Aside0 (gb174 ≠ gb188) := ⟨h10_⟩
                      have n11_ : Aside0 (gb188 ≠ gb174) := ⟨h11_⟩
                      have n12_ : Aside0 (Below w.heap.size w w84) := ⟨h12_⟩
                      clear BK172
                      clear BK173
                      clear BK174
                      clear HB
                      clear h0_ h1_ h2_ h3_ h4_ h5_ h6_ h7_ h8_ h9_ h10_ h11_ h12_
                      have BK172 := n0_
                      have BK173 := n1_
                      have BK174 := n2_
                      have BK188 := n3_
                      have GW188 := n4_
                      have GE188 := n5_
                      have NB172_188 := n6_
                      have NB188_172 := n7_
                      have NB173_188 := n8_
                      have NB188_173 := n9_
                      have NB174_188 := n10_
                      have NB188_174 := n11_
                      have HB := n12_
                      clear n0_ n1_ n2_ n3_ n4_ n5_ n6_ n7_ n8_ n9_ n10_ n11_ n12_
                      have hHeld : w84.cell? ⟨gb174, 0, none⟩ = some (.int .i64 a2_1) ∧ w84.cell? ⟨gb174, 1, none⟩ = some (.int .i64 a2_2) := hS_
                      refine norm_ (a' := ?_) ?_ ?_
                      rotate_left
                      · simp only [putAll, Act.put, List.setIfInBounds_toArray, List.set_cons_zero, List.set_cons_succ]
                        rfl
                      refine one_ (i := 26) (N := none) #[true, true, true, true, true, true, true, true, true, true, true, true, true, true, true, true, true, true, true, true, true, true, true, true, true, true, true] rfl rfl (one_of HT_.out (by kernel_rfl)) (by decide) (fun K hK => ?_)
                      have hs85 : w84.cell? ⟨gb188, 0, none⟩ = some (.int .i64 0) := (blk_cell BK188.out 0).trans rfl
                      have hfs85 := blk_frozen BK188.out 0
                      have hns85_0 := NB172_188.out
                      have hns85_1 := NB173_188.out
                      have hns85_2 := NB174_188.out
                      have hms85_0 := NB188_172.out
                      have hms85_1 := NB188_173.out
                      have hms85_2 := NB188_174.out
                      have hs86 : w84.cell? ⟨gb188, 1, none⟩ = some (.int .i64 0) := (blk_cell BK188.out 1).trans rfl
                      have hfs86 := blk_frozen BK188.out 1
                      have hns86_0 := NB172_188.out
                      have hns86_1 := NB173_188.out
                      have hns86_2 := NB174_188.out
                      have hms86_0 := NB188_172.out
                      have hms86_1 := NB188_173.out
                      have hms86_2 := NB188_174.out
                      have hs87 : w84.cell? ⟨gb188, 2, none⟩ = some (.int .i64 0) := (blk_cell BK188.out 2).trans rfl
                      have hfs87 := blk_frozen BK188.out 2
                      have hns87_0 := NB172_188.out
                      have hns87_1 := NB173_188.out
                      have hns87_2 := NB174_188.out
                      have hms87_0 := NB188_172.out
                      have hms87_1 := NB188_173.out
                      have hms87_2 := NB188_174.out
                      refine skip_ (w1 := ?_) (by rfl) rfl ?_ ?_
                      rotate_left
                      · go_simp
                        rfl
                      refine hK.out _ _ ⟨((cell_far (p := ⟨gb188, _, none⟩) NB174_188.out _).trans (((cell_far (p := ⟨gb188, _, none⟩) NB174_188.out _).trans (((cell_far (p := ⟨gb188, _, none⟩) NB174_188.out _).trans (hHeld.1)))))), ((cell_far (p := ⟨gb188, _, none⟩) NB174_188.out _).trans (((cell_far (p := ⟨gb188, _, none⟩) NB174_188.out _).trans (((cell_far (p := ⟨gb188, _, none⟩) NB174_188.out _).trans (hHeld.2))))))⟩ (fun hHeld => ?_)
                      clear hK K
                      refine done_ (done_of HT_.out (by kernel_rfl)) ?_
                      go_upto_region 14 with (fail)
                      go_cut [18] (fun v18 wc => ∃ (kq : Nat) (x18_76 : Int), v18 = .int .i64 x18_76 ∧ Aside0 (score_Of.j3 kq l0 a1 x15_65 x16_65 x18_76 a2_1 a2_2 (wrap64 (t184 * (wrap64 (x16_65 - x15_65)))) (wrap64 (t185 * a3)) (wrap64 (a3 * (wrap64 ((wrap64 (2 * t186)) + (wrap64 (t187 * (ji76))))))) = some (r1, r2, r3, r4)) ∧ Aside0 (kq ≤ kj65) ∧ Aside0 (wc.heap[gb172]? = some (.cells #[.int .i64 a2_0, .int .i64 a2_1, .int .i64 a2_2] 52 (0, 0))) ∧ Aside0 (wc.heap[gb173]? = some (.cells #[.int .i64 x174000_2, .int .i64 x174001_2, .int .i64 x174002_2] 28 (0, 0))) ∧ Aside0 (wc.heap[gb174]? = some (.cells #[.int .i64 a2_1, .int .i64 a2_2] 71 (0, 0))) ∧ Aside0 (wc.heap[gb188]? = some (.cells #[.int .i64 (wrap64 (t184 * (wrap64 (x16_65 - x15_65)))), .int .i64 (wrap64 (t185 * a3)), .int .i64 (wrap64 (a3 * (wrap64 ((wrap64 (2 * t186)) + (wrap64 (t187 * (ji76)))))))] 28 (0, 0))) ∧ Aside0 (Below w.heap.size w wc))
                      case first =>
                        have H := HC77.out
                        clear HC77
                        by_cases c88 : 0 ≤ a1
                        · rw [if_pos c88] at H
                          have c88b0 : decide (0 ≤ a1) = true := decide_eq_true c88
                          clear c88
                          (first | rw [c88b0] | (simp only [i64_w, i32_w]; rw [c88b0]) | skip)
                          by_cases c89 : a1 < (l0.length : Int)
                          · rw [if_pos c89] at H
                            have c89b0 : decide (a1 < (l0.length : Int)) = true := decide_eq_true c89
                            clear c89
                            have H' := Aside0.mk H
                            clear H
                            have p189 : 0 ≤ (a1 : Int) := of_decide_eq_true (by first | (with_reducible assumption) | assumption)
                            have q189 : a1 < (l0.length : Int) := of_decide_eq_true (by first | (with_reducible assumption) | assumption)
                            obtain ⟨ad189, e189, hx189_0, hx189_1, hx189_2, hx189_3, hx189_4, hx189_5, hx189_6, hx189_7, hx189_8, hx189_9⟩ := at_T58 HR0.out a1 p189 q189
                            cases e189
                            have hn189_0 : ad189.block ≠ gb188 := Nat.ne_of_lt (Nat.lt_of_lt_of_le (by have := World.block_lt_of_cell? _ _ hx189_0; first | rwa [add_block] at this | exact this) GW188.out)
                            have hn189_1 : ad189.block ≠ gb188 := Nat.ne_of_lt (Nat.lt_of_lt_of_le (by have := World.block_lt_of_cell? _ _ hx189_0; first | rwa [add_block] at this | exact this) GW188.out)
                            have hn189_2 : ad189.block ≠ gb188 := Nat.ne_of_lt (Nat.lt_of_lt_of_le (by have := World.block_lt_of_cell? _ _ hx189_0; first | rwa [add_block] at this | exact this) GW188.out)
                            replace hx189_0 := (HB.out.cell (World.block_lt_of_cell? w _ hx189_0)).trans hx189_0
                            replace hx189_1 := (HB.out.cell (World.block_lt_of_cell? w _ hx189_1)).trans hx189_1
                            replace hx189_2 := (HB.out.cell (World.block_lt_of_cell? w _ hx189_2)).trans hx189_2
                            replace hx189_3 := (HB.out.cell (World.block_lt_of_cell? w _ hx189_3)).trans hx189_3
                            replace hx189_4 := (HB.out.cell (World.block_lt_of_cell? w _ hx189_4)).trans hx189_4
                            replace hx189_5 := (HB.out.cell (World.block_lt_of_cell? w _ hx189_5)).trans hx189_5
                            replace hx189_6 := (HB.out.cell (World.block_lt_of_cell? w _ hx189_6)).trans hx189_6
                            replace hx189_7 := (HB.out.cell (World.block_lt_of_cell? w _ hx189_7)).trans hx189_7
                            replace hx189_8 := (HB.out.cell (World.block_lt_of_cell? w _ hx189_8)).trans hx189_8
                            replace hx189_9 := (HB.out.cell (World.block_lt_of_cell? w _ hx189_9)).trans hx189_9
                            replace hx189_0 := (cell_far (p := ⟨gb188, 0, none⟩) (by first | (rw [add_block]; exact hn189_0) | (show (Addr.add _ _).block ≠ _; rw [add_block]; exact hn189_0) | exact hn189_0) (.int .i64 (wrap64 (t184 * (wrap64 (x16_65 - x15_65)))))).trans hx189_0
                            replace hx189_1 := (cell_far (p := ⟨gb188, 0, none⟩) (by first | (rw [add_block]; exact hn189_0) | (show (Addr.add _ _).block ≠ _; rw [add_block]; exact hn189_0) | exact hn189_0) (.int .i64 (wrap64 (t184 * (wrap64 (x16_65 - x15_65)))))).trans hx189_1
                            replace hx189_2 := (cell_far (p := ⟨gb188, 0, none⟩) (by first | (rw [add_block]; exact hn189_0) | (show (Addr.add _ _).block ≠ _; rw [add_block]; exact hn189_0) | exact hn189_0) (.int .i64 (wrap64 (t184 * (wrap64 (x16_65 - x15_65)))))).trans hx189_2
                            replace hx189_3 := (cell_far (p := ⟨gb188, 0, none⟩) (by first | (rw [add_block]; exact hn189_0) | (show (Addr.add _ _).block ≠ _; rw [add_block]; exact hn189_0) | exact hn189_0) (.int .i64 (wrap64 (t184 * (wrap64 (x16_65 - x15_65)))))).trans hx189_3
                            replace hx189_4 := (cell_far (p := ⟨gb188, 0, none⟩) (by first | (rw [add_block]; exact hn189_0) | (show (Addr.add _ _).block ≠ _; rw [add_block]; exact hn189_0) | exact hn189_0) (.int .i64 (wrap64 (t184 * (wrap64 (x16_65 - x15_65)))))).trans hx189_4
                            replace hx189_5 := (cell_far (p := ⟨gb188, 0, none⟩) (by first | (rw [add_block]; exact hn189_0) | (show (Addr.add _ _).block ≠ _; rw [add_block]; exact hn189_0) | exact hn189_0) (.int .i64 (wrap64 (t184 * (wrap64 (x16_65 - x15_65)))))).trans hx189_5
                            replace hx189_6 := (cell_far (p := ⟨gb188, 0, none⟩) (by first | (rw [add_block]; exact hn189_0) | (show (Addr.add _ _).block ≠ _; rw [add_block]; exact hn189_0) | exact hn189_0) (.int .i64 (wrap64 (t184 * (wrap64 (x16_65 - x15_65)))))).trans hx189_6
                            replace hx189_7 := (cell_far (p := ⟨gb188, 0, none⟩) (by first | (rw [add_block]; exact hn189_0) | (show (Addr.add _ _).block ≠ _; rw [add_block]; exact hn189_0) | exact hn189_0) (.int .i64 (wrap64 (t184 * (wrap64 (x16_65 - x15_65)))))).trans hx189_7
                            replace hx189_8 := (cell_far (p := ⟨gb188, 0, none⟩) (by first | (rw [add_block]; exact hn189_0) | (show (Addr.add _ _).block ≠ _; rw [add_block]; exact hn189_0) | exact hn189_0) (.int .i64 (wrap64 (t184 * (wrap64 (x16_65 - x15_65)))))).trans hx189_8
                            replace hx189_9 := (cell_far (p := ⟨gb188, 0, none⟩) (by first | (rw [add_block]; exact hn189_0) | (show (Addr.add _ _).block ≠ _; rw [add_block]; exact hn189_0) | exact hn189_0) (.int .i64 (wrap64 (t184 * (wrap64 (x16_65 - x15_65)))))).trans hx189_9
                            replace hx189_0 := (cell_far (p := ⟨gb188, 1, none⟩) (by first | (rw [add_block]; exact hn189_1) | (show (Addr.add _ _).block ≠ _; rw [add_block]; exact hn189_1) | exact hn189_1) (.int .i64 (wrap64 (t185 * a3)))).trans hx189_0
                            replace hx189_1 := (cell_far (p := ⟨gb188, 1, none⟩) (by first | (rw [add_block]; exact hn189_1) | (show (Addr.add _ _).block ≠ _; rw [add_block]; exact hn189_1) | exact hn189_1) (.int .i64 (wrap64 (t185 * a3)))).trans hx189_1
                            replace hx189_2 := (cell_far (p := ⟨gb188, 1, none⟩) (by first | (rw [add_block]; exact hn189_1) | (show (Addr.add _ _).block ≠ _; rw [add_block]; exact hn189_1) | exact hn189_1) (.int .i64 (wrap64 (t185 * a3)))).trans hx189_2
                            replace hx189_3 := (cell_far (p := ⟨gb188, 1, none⟩) (by first | (rw [add_block]; exact hn189_1) | (show (Addr.add _ _).block ≠ _; rw [add_block]; exact hn189_1) | exact hn189_1) (.int .i64 (wrap64 (t185 * a3)))).trans hx189_3
                            replace hx189_4 := (cell_far (p := ⟨gb188, 1, none⟩) (by first | (rw [add_block]; exact hn189_1) | (show (Addr.add _ _).block ≠ _; rw [add_block]; exact hn189_1) | exact hn189_1) (.int .i64 (wrap64 (t185 * a3)))).trans hx189_4
                            replace hx189_5 := (cell_far (p := ⟨gb188, 1, none⟩) (by first | (rw [add_block]; exact hn189_1) | (show (Addr.add _ _).block ≠ _; rw [add_block]; exact hn189_1) | exact hn189_1) (.int .i64 (wrap64 (t185 * a3)))).trans hx189_5
                            replace hx189_6 := (cell_far (p := ⟨gb188, 1, none⟩) (by first | (rw [add_block]; exact hn189_1) | (show (Addr.add _ _).block ≠ _; rw [add_block]; exact hn189_1) | exact hn189_1) (.int .i64 (wrap64 (t185 * a3)))).trans hx189_6
                            replace hx189_7 := (cell_far (p := ⟨gb188, 1, none⟩) (by first | (rw [add_block]; exact hn189_1) | (show (Addr.add _ _).block ≠ _; rw [add_block]; exact hn189_1) | exact hn189_1) (.int .i64 (wrap64 (t185 * a3)))).trans hx189_7
                            replace hx189_8 := (cell_far (p := ⟨gb188, 1, none⟩) (by first | (rw [add_block]; exact hn189_1) | (show (Addr.add _ _).block ≠ _; rw [add_block]; exact hn189_1) | exact hn189_1) (.int .i64 (wrap64 (t185 * a3)))).trans hx189_8
                            replace hx189_9 := (cell_far (p := ⟨gb188, 1, none⟩) (by first | (rw [add_block]; exact hn189_1) | (show (Addr.add _ _).block ≠ _; rw [add_block]; exact hn189_1) | exact hn189_1) (.int .i64 (wrap64 (t185 * a3)))).trans hx189_9
                            replace hx189_0 := (cell_far (p := ⟨gb188, 2, none⟩) (by first | (rw [add_block]; exact hn189_2) | (show (Addr.add _ _).block ≠ _; rw [add_block]; exact hn189_2) | exact hn189_2) (.int .i64 (wrap64 (a3 * (wrap64 ((wrap64 (2 * t186)) + (wrap64 (t187 * (ji76))))))))).trans hx189_0
                            replace hx189_1 := (cell_far (p := ⟨gb188, 2, none⟩) (by first | (rw [add_block]; exact hn189_2) | (show (Addr.add _ _).block ≠ _; rw [add_block]; exact hn189_2) | exact hn189_2) (.int .i64 (wrap64 (a3 * (wrap64 ((wrap64 (2 * t186)) + (wrap64 (t187 * (ji76))))))))).trans hx189_1
                            replace hx189_2 := (cell_far (p := ⟨gb188, 2, none⟩) (by first | (rw [add_block]; exact hn189_2) | (show (Addr.add _ _).block ≠ _; rw [add_block]; exact hn189_2) | exact hn189_2) (.int .i64 (wrap64 (a3 * (wrap64 ((wrap64 (2 * t186)) + (wrap64 (t187 * (ji76))))))))).trans hx189_2
                            replace hx189_3 := (cell_far (p := ⟨gb188, 2, none⟩) (by first | (rw [add_block]; exact hn189_2) | (show (Addr.add _ _).block ≠ _; rw [add_block]; exact hn189_2) | exact hn189_2) (.int .i64 (wrap64 (a3 * (wrap64 ((wrap64 (2 * t186)) + (wrap64 (t187 * (ji76))))))))).trans hx189_3
                            replace hx189_4 := (cell_far (p := ⟨gb188, 2, none⟩) (by first | (rw [add_block]; exact hn189_2) | (show (Addr.add _ _).block ≠ _; rw [add_block]; exact hn189_2) | exact hn189_2) (.int .i64 (wrap64 (a3 * (wrap64 ((wrap64 (2 * t186)) + (wrap64 (t187 * (ji76))))))))).trans hx189_4
                            replace hx189_5 := (cell_far (p := ⟨gb188, 2, none⟩) (by first | (rw [add_block]; exact hn189_2) | (show (Addr.add _ _).block ≠ _; rw [add_block]; exact hn189_2) | exact hn189_2) (.int .i64 (wrap64 (a3 * (wrap64 ((wrap64 (2 * t186)) + (wrap64 (t187 * (ji76))))))))).trans hx189_5
                            replace hx189_6 := (cell_far (p := ⟨gb188, 2, none⟩) (by first | (rw [add_block]; exact hn189_2) | (show (Addr.add _ _).block ≠ _; rw [add_block]; exact hn189_2) | exact hn189_2) (.int .i64 (wrap64 (a3 * (wrap64 ((wrap64 (2 * t186)) + (wrap64 (t187 * (ji76))))))))).trans hx189_6
                            replace hx189_7 := (cell_far (p := ⟨gb188, 2, none⟩) (by first | (rw [add_block]; exact hn189_2) | (show (Addr.add _ _).block ≠ _; rw [add_block]; exact hn189_2) | exact hn189_2) (.int .i64 (wrap64 (a3 * (wrap64 ((wrap64 (2 * t186)) + (wrap64 (t187 * (ji76))))))))).trans hx189_7
                            replace hx189_8 := (cell_far (p := ⟨gb188, 2, none⟩) (by first | (rw [add_block]; exact hn189_2) | (show (Addr.add _ _).block ≠ _; rw [add_block]; exact hn189_2) | exact hn189_2) (.int .i64 (wrap64 (a3 * (wrap64 ((wrap64 (2 * t186)) + (wrap64 (t187 * (ji76))))))))).trans hx189_8
                            replace hx189_9 := (cell_far (p := ⟨gb188, 2, none⟩) (by first | (rw [add_block]; exact hn189_2) | (show (Addr.add _ _).block ≠ _; rw [add_block]; exact hn189_2) | exact hn189_2) (.int .i64 (wrap64 (a3 * (wrap64 ((wrap64 (2 * t186)) + (wrap64 (t187 * (ji76))))))))).trans hx189_9
                            clear hn189_0
                            clear hn189_1
                            clear hn189_2
                            replace p189 := eq_true p189
                            replace q189 := eq_true q189
                            go_wp2
                            go_meet
                            case rel => exact ⟨_, ((rd_T58 l0 a1).f1), (by first | rfl | (simp; done) | (simp [*]; done) | exact congrArg (Value.int _) (by unfold wrap64; omega)), H', ⟨by have := HJ5.out; have := HK2.out; have := HJ65.out; first | omega | exact Nat.le_refl _⟩, ⟨by (with_reducible repeat (first | refine blk_drewN ?_ _ | refine blk_drew ?_ | refine blk_alloc ?_ _)); refine blk_far ?_ NB172_188.out _; (with_reducible repeat (first | refine blk_drewN ?_ _ | refine blk_drew ?_ | refine blk_alloc ?_ _)); refine blk_far ?_ NB172_188.out _; (with_reducible repeat (first | refine blk_drewN ?_ _ | refine blk_drew ?_ | refine blk_alloc ?_ _)); refine blk_far ?_ NB172_188.out _; (with_reducible repeat (first | refine blk_drewN ?_ _ | refine blk_drew ?_ | refine blk_alloc ?_ _)); exact BK172.out⟩, ⟨by (with_reducible repeat (first | refine blk_drewN ?_ _ | refine blk_drew ?_ | refine blk_alloc ?_ _)); refine blk_far ?_ NB173_188.out _; (with_reducible repeat (first | refine blk_drewN ?_ _ | refine blk_drew ?_ | refine blk_alloc ?_ _)); refine blk_far ?_ NB173_188.out _; (with_reducible repeat (first | refine blk_drewN ?_ _ | refine blk_drew ?_ | refine blk_alloc ?_ _)); refine blk_far ?_ NB173_188.out _; (with_reducible repeat (first | refine blk_drewN ?_ _ | refine blk_drew ?_ | refine blk_alloc ?_ _)); exact BK173.out⟩, ⟨by (with_reducible repeat (first | refine blk_drewN ?_ _ | refine blk_drew ?_ | refine blk_alloc ?_ _)); refine blk_far ?_ NB174_188.out _; (with_reducible repeat (first | refine blk_drewN ?_ _ | refine blk_drew ?_ | refine blk_alloc ?_ _)); refine blk_far ?_ NB174_188.out _; (with_reducible repeat (first | refine blk_drewN ?_ _ | refine blk_drew ?_ | refine blk_alloc ?_ _)); refine blk_far ?_ NB174_188.out _; (with_reducible repeat (first | refine blk_drewN ?_ _ | refine blk_drew ?_ | refine blk_alloc ?_ _)); exact BK174.out⟩, ⟨by (with_reducible repeat (first | refine blk_drewN ?_ _ | refine blk_drew ?_ | refine blk_alloc ?_ _)); refine blk_put (cs := #[.int .i64 (wrap64 (t184 * (wrap64 (x16_65 - x15_65)))), .int .i64 (wrap64 (t185 * a3)), .int .i64 0]) ?_ 2 _ rfl; (with_reducible repeat (first | refine blk_drewN ?_ _ | refine blk_drew ?_ | refine blk_alloc ?_ _)); refine blk_put (cs := #[.int .i64 (wrap64 (t184 * (wrap64 (x16_65 - x15_65)))), .int .i64 0, .int .i64 0]) ?_ 1 _ rfl; (with_reducible repeat (first | refine blk_drewN ?_ _ | refine blk_drew ?_ | refine blk_alloc ?_ _)); refine blk_put (cs := #[.int .i64 0, .int .i64 0, .int .i64 0]) ?_ 0 _ rfl; (with_reducible repeat (first | refine blk_drewN ?_ _ | refine blk_drew ?_ | refine blk_alloc ?_ _)); exact BK188.out⟩, ⟨by repeat (first | (with_reducible first | exact HB.out | apply below_alloc | apply pw_below_drewN | apply below_drew1 | refine below_set ?_ GE172.out | refine below_set ?_ GE173.out | refine below_set ?_ GE174.out | refine below_set ?_ GE188.out) | exact HB.out)⟩⟩
                          · rw [if_neg c89] at H
                            exact absurd H (by simp)
                        · rw [if_neg c88] at H
                          exact absurd H (by simp)
                      case rest =>
                        clear HC77
                        try clear p1
                        try clear q1
                        try clear hx1
                        try clear p2
                        try clear c3
                        try clear p6
                        try clear c8
                        try clear p18
                        try clear q18
                        try clear hx18
                        try clear c35
                        try clear c36
                        try clear p64
                        try clear c88
                        try clear c88b0
                        try clear c89
                        try clear c89b0
                        try clear hx189_0
                        try clear hx189_1
                        try clear hx189_2
                        try clear hx189_3
                        try clear hx189_4
                        try clear hx189_5
                        try clear hx189_6
                        try clear hx189_7
                        try clear hx189_8
                        try clear hx189_9
                        try clear p189
                        try clear q189
                        obtain ⟨kq, x18_76, rfl, HA, HJ76, BK172, BK173, BK174, BK188, HB⟩ := hcut
                        cases kq with
                        | zero => exact absurd HA.out (by simp [score_Of.j3])
                        | succ kj76 =>
                          have H := HA.out
                          clear HA
                          simp only [score_Of.j3] at H
                          by_cases c90 : 0 ≤ a1
                          · rw [if_pos c90] at H
                            have c90b0 : decide (0 ≤ a1) = true := decide_eq_true c90
                            clear c90
                            by_cases c91 : a1 < (l0.length : Int)
                            · rw [if_pos c91] at H
                              have c91b0 : decide (a1 < (l0.length : Int)) = true := decide_eq_true c91
                              clear c91
                              by_cases c92 : ((rd_T58 l0 a1).f0.f4) = 1
                              · rw [if_pos c92] at H
                                have c92b0 : (((rd_T58 l0 a1).f0.f4) == 1) = true := beq_iff_eq.mpr c92
                                have c92b1 : (((rd_T58 l0 a1).f0.f4) != 1) = false := bne_eq_false_iff_eq.mpr c92
                                clear c92
                                replace H := Option.bind_eq_some_iff.mp H
                                obtain ⟨t191, A930, H⟩ := H
                                replace H : (some (wrap64 ((wrap64 (t184 * (wrap64 (x16_65 - x15_65)))) - (wrap64 ((wrap64 (t191 * a2_2)) * (wrap64 (x18_76 - x15_65))))), (wrap64 (t185 * a3)), (wrap64 (a3 * (wrap64 ((wrap64 (2 * t186)) + (wrap64 (t187 * (ji76))))))), true)) = some (r1, r2, r3, r4) := H
                                have A93 := Aside0.mk A930
                                clear A930
                                simp only [Option.some.injEq, Prod.mk.injEq] at H
                                obtain ⟨rfl, rfl, rfl, rfl⟩ := H
                                have p190 : 0 ≤ (a1 : Int) := of_decide_eq_true (by first | (with_reducible assumption) | assumption)
                                have q190 : a1 < (l0.length : Int) := of_decide_eq_true (by first | (with_reducible assumption) | assumption)
                                obtain ⟨ad190, e190, hx190_0, hx190_1, hx190_2, hx190_3, hx190_4, hx190_5, hx190_6, hx190_7, hx190_8, hx190_9⟩ := at_T58 HR0.out a1 p190 q190
                                cases e190
                                replace hx190_0 := (HB.out.cell (World.block_lt_of_cell? w _ hx190_0)).trans hx190_0
                                replace hx190_1 := (HB.out.cell (World.block_lt_of_cell? w _ hx190_1)).trans hx190_1
                                replace hx190_2 := (HB.out.cell (World.block_lt_of_cell? w _ hx190_2)).trans hx190_2
                                replace hx190_3 := (HB.out.cell (World.block_lt_of_cell? w _ hx190_3)).trans hx190_3
                                replace hx190_4 := (HB.out.cell (World.block_lt_of_cell? w _ hx190_4)).trans hx190_4
                                replace hx190_5 := (HB.out.cell (World.block_lt_of_cell? w _ hx190_5)).trans hx190_5
                                replace hx190_6 := (HB.out.cell (World.block_lt_of_cell? w _ hx190_6)).trans hx190_6
                                replace hx190_7 := (HB.out.cell (World.block_lt_of_cell? w _ hx190_7)).trans hx190_7
                                replace hx190_8 := (HB.out.cell (World.block_lt_of_cell? w _ hx190_8)).trans hx190_8
                                replace hx190_9 := (HB.out.cell (World.block_lt_of_cell? w _ hx190_9)).trans hx190_9
                                replace p190 := eq_true p190
                                replace q190 := eq_true q190
                                try go_wp2
                                have n0_ := Aside0.mk (blk_drew BK172.out)
                                have n1_ := Aside0.mk (blk_drew BK173.out)
                                have n2_ := Aside0.mk (blk_drew BK174.out)
                                have n3_ := Aside0.mk (blk_drew BK188.out)
                                have n4_ := Aside0.mk (below_drew1 HB.out)
                                clear BK172
                                clear BK173
                                clear BK174
                                clear BK188
                                clear HB
                                have BK172 := n0_
                                have BK173 := n1_
                                have BK174 := n2_
                                have BK188 := n3_
                                have HB := n4_
                                clear n0_ n1_ n2_ n3_ n4_
                                refine start_ (n := 14) (S := fun w' => w'.cell? ⟨gb188, 0, none⟩ = some (.int .i64 (wrap64 (t184 * (wrap64 (x16_65 - x15_65))))) ∧ w'.cell? ⟨gb188, 1, none⟩ = some (.int .i64 (wrap64 (t185 * a3))) ∧ w'.cell? ⟨gb188, 2, none⟩ = some (.int .i64 (wrap64 (a3 * (wrap64 ((wrap64 (2 * t186)) + (wrap64 (t187 * (ji76)))))))) ∧ w'.cell? ⟨gb174, 0, none⟩ = some (.int .i64 a2_1) ∧ w'.cell? ⟨gb174, 1, none⟩ = some (.int .i64 a2_2)) (ds := [13]) #[false, false, false, false, false, false, false, false, false, false, false, false, false, false] (by kernel_rfl) rfl rfl ⟨(blk_cell BK188.out 0).trans rfl, (blk_cell BK188.out 1).trans rfl, (blk_cell BK188.out 2).trans rfl, (blk_cell BK174.out 0).trans rfl, (blk_cell BK174.out 1).trans rfl⟩ (fun hHeld => ?_); refine with_tabW score_Of.tab18 score_Of.bits18 (fun HT_ HW_ => ?_)
                                generalize wc.drew = w94 at BK172 BK173 BK174 BK188 HB hHeld ⊢
                                refine pure_ (i := 0) (N := some 114) (v := ?_) (a' := ?_) #[true, false, false, false, false, false, false, false, false, false, false, false, false, false] rfl rfl (any_of HT_.out (by kernel_rfl)) (fun _ _ _ h => h) (Or.inl ⟨by rfl, ?_⟩) ?_ ?_
                                rotate_left
                                · intro w'
                                  go_simp
                                  with_reducible rfl
                                rotate_left
                                · simp only [Act.put, List.setIfInBounds_toArray, List.set_cons_zero, List.set_cons_succ, i64_w, i32_w]
                                  rfl
                                refine pure_ (i := 4) (N := some 118) (v := ?_) (a' := ?_) #[true, false, false, false, true, false, false, false, false, false, false, false, false, false] rfl rfl (any_of HT_.out (by kernel_rfl)) (fun _ _ _ h => h) (Or.inl ⟨by rfl, ?_⟩) ?_ ?_
                                rotate_left
                                · intro w'
                                  go_simp
                                  with_reducible rfl
                                rotate_left
                                · simp only [Act.put, List.setIfInBounds_toArray, List.set_cons_zero, List.set_cons_succ, i64_w, i32_w]
                                  rfl
                                refine pure_ (i := 7) (N := some 121) (v := ?_) (a' := ?_) #[true, false, false, false, true, false, false, true, false, false, false, false, false, false] rfl rfl (any_of HT_.out (by kernel_rfl)) (fun _ _ _ h => h) (Or.inl ⟨by rfl, ?_⟩) ?_ ?_
                                rotate_left
                                · intro w'
                                  go_simp
                                  with_reducible rfl
                                rotate_left
                                · simp only [Act.put, List.setIfInBounds_toArray, List.set_cons_zero, List.set_cons_succ, i64_w, i32_w]
                                  rfl
                                refine pure_ (i := 8) (N := some 122) (v := ?_) (a' := ?_) #[true, false, false, false, true, false, false, true, true, false, false, false, false, false] rfl rfl (any_of HT_.out (by kernel_rfl)) (fun _ _ _ h => h) (Or.inl ⟨by rfl, ?_⟩) ?_ ?_
                                rotate_left
                                · intro w'
                                  go_simp
                                  with_reducible rfl
                                rotate_left
                                · simp only [Act.put, List.setIfInBounds_toArray, List.set_cons_zero, List.set_cons_succ, i64_w, i32_w]
                                  rfl
                                refine pure_ (i := 9) (N := some 123) (v := ?_) (a' := ?_) #[true, false, false, false, true, false, false, true, true, true, false, false, false, false] rfl rfl (any_of HT_.out (by kernel_rfl)) (fun _ _ _ h => h) (Or.inl ⟨by rfl, ?_⟩) ?_ ?_
                                rotate_left
                                · intro w'
                                  go_simp
                                  with_reducible rfl
                                rotate_left
                                · simp only [Act.put, List.setIfInBounds_toArray, List.set_cons_zero, List.set_cons_succ, i64_w, i32_w]
                                  rfl
                                refine take_ (i := 1) (N := some 115) (v := ?_) (a' := ?_) #[true, true, false, false, true, false, false, true, true, true, false, false, false, false] rfl rfl (take_ofW HT_.out HW_.out (by kernel_rfl)) (fun _ _ _ h => h) (Or.inl ⟨by rfl, ?_⟩) hHeld ?_ ?_
                                rotate_left
                                · rintro w' ⟨s0, s1, s2, s3, s4⟩
                                  go_simp
                                  with_reducible rfl
                                rotate_left
                                · simp only [Act.put, List.setIfInBounds_toArray, List.set_cons_zero, List.set_cons_succ, i64_w, i32_w]
                                  rfl
                                refine take_ (i := 2) (N := some 116) (v := ?_) (a' := ?_) #[true, true, true, false, true, false, false, true, true, true, false, false, false, false] rfl rfl (take_ofW HT_.out HW_.out (by kernel_rfl)) (fun _ _ _ h => h) (Or.inl ⟨by rfl, ?_⟩) hHeld ?_ ?_
                                rotate_left
                                · rintro w' ⟨s0, s1, s2, s3, s4⟩
                                  go_simp
                                  with_reducible rfl
                                rotate_left
                                · simp only [Act.put, List.setIfInBounds_toArray, List.set_cons_zero, List.set_cons_succ, i64_w, i32_w]
                                  rfl
                                refine take_ (i := 5) (N := some 119) (v := ?_) (a' := ?_) #[true, true, true, false, true, true, false, true, true, true, false, false, false, false] rfl rfl (take_ofW HT_.out HW_.out (by kernel_rfl)) (fun _ _ _ h => h) (Or.inl ⟨by rfl, ?_⟩) hHeld ?_ ?_
                                rotate_left
                                · rintro w' ⟨s0, s1, s2, s3, s4⟩
                                  go_simp
                                  with_reducible rfl
                                rotate_left
                                · simp only [Act.put, List.setIfInBounds_toArray, List.set_cons_zero, List.set_cons_succ, i64_w, i32_w]
                                  rfl
                                refine one_ (i := 3) (N := some 117) #[true, true, true, true, true, true, false, true, true, true, false, false, false, false] rfl rfl (one_of HT_.out (by kernel_rfl)) (by decide) (fun K hK => ?_)
                                refine goes_ Try.func36 (by kernel_rfl) rfl #[.agg #[.int .i64 a2_1, .int .i64 a2_2]] (by rfl) rfl rfl (by (try simp only [List.map_toArray, List.map_cons, List.map_nil]); first | done | rfl | (simp only [List.length_drop, List.length_take]; rfl)) ?_
                                with_reducible refine (score_weights_sum.calls a2_1 a2_2 t191 _ A93.out).mono ?_
                                rintro e w95 ⟨rfl, hb⟩
                                refine ⟨_, rfl, ?_⟩
                                have n0_ := Aside0.mk (blk_below (g := gb172) (o := .cells #[.int .i64 a2_0, .int .i64 a2_1, .int .i64 a2_2] 52 (0, 0)) (by (with_reducible repeat (first | refine blk_drewN ?_ _ | refine blk_drew ?_ | refine blk_alloc ?_ _)); exact BK172.out) hb)
                                have n1_ := Aside0.mk (blk_below (g := gb173) (o := .cells #[.int .i64 x174000_2, .int .i64 x174001_2, .int .i64 x174002_2] 28 (0, 0)) (by (with_reducible repeat (first | refine blk_drewN ?_ _ | refine blk_drew ?_ | refine blk_alloc ?_ _)); exact BK173.out) hb)
                                have n2_ := Aside0.mk (blk_below (g := gb174) (o := .cells #[.int .i64 a2_1, .int .i64 a2_2] 71 (0, 0)) (by (with_reducible repeat (first | refine blk_drewN ?_ _ | refine blk_drew ?_ | refine blk_alloc ?_ _)); exact BK174.out) hb)
                                have n3_ := Aside0.mk (blk_below (g := gb188) (o := .cells #[.int .i64 (wrap64 (t184 * (wrap64 (x16_65 - x15_65)))), .int .i64 (wrap64 (t185 * a3)), .int .i64 (wrap64 (a3 * (wrap64 ((wrap64 (2 * t186)) + (wrap64 (t187 * (ji76)))))))] 28 (0, 0)) (by (with_reducible repeat (first | refine blk_drewN ?_ _ | refine blk_drew ?_ | refine blk_alloc ?_ _)); exact BK188.out) hb)
                                have n4_ := Aside0.mk (below_step (by repeat (first | (with_reducible first | exact HB.out | apply below_alloc | apply pw_below_drewN | apply below_drew1 | refine below_set ?_ GE172.out | refine below_set ?_ GE173.out | refine below_set ?_ GE174.out | refine below_set ?_ GE188.out) | exact HB.out)) hb)
                                clear BK172
                                clear BK173
                                clear BK174
                                clear BK188
                                clear HB
                                have BK172 := n0_
                                have BK173 := n1_
                                have BK174 := n2_
                                have BK188 := n3_
                                have HB := n4_
                                clear n0_ n1_ n2_ n3_ n4_
                                (try clear hb)
                                (try clear hb2)
                                (try clear hk)
                                (try clear hi)
                                refine hK.out _ _ ⟨(blk_cell BK188.out 0).trans rfl, (blk_cell BK188.out 1).trans rfl, (blk_cell BK188.out 2).trans rfl, (blk_cell BK174.out 0).trans rfl, (blk_cell BK174.out 1).trans rfl⟩ (fun hHeld => ?_)
                                clear hK K
                                refine norm_ (a' := ?_) ?_ ?_
                                rotate_left
                                · show Act.put _ (some 117) _ = _
                                  simp only [Act.put, List.setIfInBounds_toArray, List.set_cons_zero, List.set_cons_succ, i64_w, i32_w]
                                  rfl
                                refine pure_ (i := 6) (N := some 120) (v := ?_) (a' := ?_) #[true, true, true, true, true, true, true, true, true, true, false, false, false, false] rfl rfl (any_of HT_.out (by kernel_rfl)) (fun _ _ _ h => h) (Or.inl ⟨by rfl, ?_⟩) ?_ ?_
                                rotate_left
                                · intro w'
                                  go_simp
                                  with_reducible rfl
                                rotate_left
                                · simp only [Act.put, List.setIfInBounds_toArray, List.set_cons_zero, List.set_cons_succ, i64_w, i32_w]
                                  rfl
                                refine pure_ (i := 10) (N := some 124) (v := ?_) (a' := ?_) #[true, true, true, true, true, true, true, true, true, true, true, false, false, false] rfl rfl (any_of HT_.out (by kernel_rfl)) (fun _ _ _ h => h) (Or.inl ⟨by rfl, ?_⟩) ?_ ?_
                                rotate_left
                                · intro w'
                                  go_simp
                                  with_reducible rfl
                                rotate_left
                                · simp only [Act.put, List.setIfInBounds_toArray, List.set_cons_zero, List.set_cons_succ, i64_w, i32_w]
                                  rfl
                                refine pure_ (i := 11) (N := some 125) (v := ?_) (a' := ?_) #[true, true, true, true, true, true, true, true, true, true, true, true, false, false] rfl rfl (any_of HT_.out (by kernel_rfl)) (fun _ _ _ h => h) (Or.inl ⟨by rfl, ?_⟩) ?_ ?_
                                rotate_left
                                · intro w'
                                  go_simp
                                  with_reducible rfl
                                rotate_left
                                · simp only [Act.put, List.setIfInBounds_toArray, List.set_cons_zero, List.set_cons_succ, i64_w, i32_w]
                                  rfl
                                refine pure_ (i := 12) (N := some 126) (v := ?_) (a' := ?_) #[true, true, true, true, true, true, true, true, true, true, true, true, true, false] rfl rfl (any_of HT_.out (by kernel_rfl)) (fun _ _ _ h => h) (Or.inl ⟨by rfl, ?_⟩) ?_ ?_
                                rotate_left
                                · intro w'
                                  go_simp
                                  with_reducible rfl
                                rotate_left
                                · simp only [Act.put, List.setIfInBounds_toArray, List.set_cons_zero, List.set_cons_succ, i64_w, i32_w]
                                  rfl
                                refine last_ (i := 13) (N := none) #[true, true, true, true, true, true, true, true, true, true, true, true, true, true] rfl rfl (one_of HT_.out (by kernel_rfl)) (by decide) (fun K hK => ?_)
                                have hs96 : w95.cell? ⟨gb188, 0, none⟩ = some (.int .i64 (wrap64 (t184 * (wrap64 (x16_65 - x15_65))))) := (blk_cell BK188.out 0).trans rfl
                                have hfs96 := blk_frozen BK188.out 0
                                have hns96_0 := NB172_188.out
                                have hns96_1 := NB173_188.out
                                have hns96_2 := NB174_188.out
                                have hms96_0 := NB188_172.out
                                have hms96_1 := NB188_173.out
                                have hms96_2 := NB188_174.out
                                refine skip_ (w1 := ?_) (by rfl) rfl ?_ ?_
                                rotate_left
                                · go_simp
                                  rfl
                                refine hK.out _ _ ?_
                                clear hK K
                                refine done_ (done_of HT_.out (by kernel_rfl)) ?_
                                have hnb97 := NB188_172.out
                                have hnc97 := NB172_188.out
                                have hnb98 := NB188_173.out
                                have hnc98 := NB173_188.out
                                have hnb99 := NB188_174.out
                                have hnc99 := NB174_188.out
                                have hcz100_0 : w95.cell? ⟨gb188, 0, none⟩ = some (.int .i64 (wrap64 (t184 * (wrap64 (x16_65 - x15_65))))) := (blk_cell BK188.out 0).trans rfl
                                have hcz100_1 : w95.cell? ⟨gb188, 1, none⟩ = some (.int .i64 (wrap64 (t185 * a3))) := (blk_cell BK188.out 1).trans rfl
                                have hcz100_2 : w95.cell? ⟨gb188, 2, none⟩ = some (.int .i64 (wrap64 (a3 * (wrap64 ((wrap64 (2 * t186)) + (wrap64 (t187 * (ji76)))))))) := (blk_cell BK188.out 2).trans rfl
                                have hfz100_0 := blk_frozen BK188.out 0
                                have hfz100_1 := blk_frozen BK188.out 1
                                have hfz100_2 := blk_frozen BK188.out 2
                                have hnb101 := NB173_172.out
                                have hnc101 := NB172_173.out
                                have hnb102 := NB173_174.out
                                have hnc102 := NB174_173.out
                                have hcz103_0 : w95.cell? ⟨gb173, 0, none⟩ = some (.int .i64 x174000_2) := (blk_cell BK173.out 0).trans rfl
                                have hcz103_1 : w95.cell? ⟨gb173, 1, none⟩ = some (.int .i64 x174001_2) := (blk_cell BK173.out 1).trans rfl
                                have hcz103_2 : w95.cell? ⟨gb173, 2, none⟩ = some (.int .i64 x174002_2) := (blk_cell BK173.out 2).trans rfl
                                have hfz103_0 := blk_frozen BK173.out 0
                                have hfz103_1 := blk_frozen BK173.out 1
                                have hfz103_2 := blk_frozen BK173.out 2
                                try go_wp2
                                refine bodyPost_ret (results_ct rfl _ _ gb173 28 #[.int .i64 (wrap64 ((wrap64 (t184 * (wrap64 (x16_65 - x15_65)))) - (wrap64 ((wrap64 (t191 * a2_2)) * (wrap64 (x18_76 - x15_65)))))), .int .i64 (wrap64 (t185 * a3)), .int .i64 (wrap64 (a3 * (wrap64 ((wrap64 (2 * t186)) + (wrap64 (t187 * (ji76)))))))] (0, 0) _ rfl (by (with_reducible repeat (first | refine blk_drewN ?_ _ | refine blk_drew ?_ | refine blk_alloc ?_ _)); refine blk_put (cs := #[.int .i64 (wrap64 ((wrap64 (t184 * (wrap64 (x16_65 - x15_65)))) - (wrap64 ((wrap64 (t191 * a2_2)) * (wrap64 (x18_76 - x15_65)))))), .int .i64 (wrap64 (t185 * a3)), .int .i64 x174002_2]) ?_ 2 _ rfl; (with_reducible repeat (first | refine blk_drewN ?_ _ | refine blk_drew ?_ | refine blk_alloc ?_ _)); refine blk_put (cs := #[.int .i64 (wrap64 ((wrap64 (t184 * (wrap64 (x16_65 - x15_65)))) - (wrap64 ((wrap64 (t191 * a2_2)) * (wrap64 (x18_76 - x15_65)))))), .int .i64 x174001_2, .int .i64 x174002_2]) ?_ 1 _ rfl; (with_reducible repeat (first | refine blk_drewN ?_ _ | refine blk_drew ?_ | refine blk_alloc ?_ _)); refine blk_put (cs := #[.int .i64 x174000_2, .int .i64 x174001_2, .int .i64 x174002_2]) ?_ 0 _ rfl; (with_reducible repeat (first | refine blk_drewN ?_ _ | refine blk_drew ?_ | refine blk_alloc ?_ _)); refine blk_far ?_ NB173_188.out _; (with_reducible repeat (first | refine blk_drewN ?_ _ | refine blk_drew ?_ | refine blk_alloc ?_ _)); exact BK173.out) Try.underlying28 rfl (by kernel_rfl)) rfl ?_
                                exact ⟨by first | rfl | (simp [errW_none, errW_some] <;> rfl) | (simp only [← hji36, ← hji76]; first | rfl | (simp [errW_none, errW_some] <;> rfl)) | (simp [*, errW_none, errW_some] <;> rfl), by repeat (first | (with_reducible first | exact HB.out | apply below_alloc | apply pw_below_drewN | apply below_drew1 | refine below_set ?_ GE172.out | refine below_set ?_ GE173.out | refine below_set ?_ GE174.out | refine below_set ?_ GE188.out) | exact HB.out)⟩
                              · rw [if_neg c92] at H
                                have c92b0 : (((rd_T58 l0 a1).f0.f4) == 1) = false := beq_eq_false_iff_ne.mpr c92
                                have c92b1 : (((rd_T58 l0 a1).f0.f4) != 1) = true := bne_iff_ne.mpr c92
                                by_cases c104 : ((rd_T58 l0 a1).f0.f4) = 2
                                · rw [if_pos c104] at H
                                  have c104b0 : (((rd_T58 l0 a1).f0.f4) == 2) = true := beq_iff_eq.mpr c104
                                  have c104b1 : (((rd_T58 l0 a1).f0.f4) != 2) = false := bne_eq_false_iff_eq.mpr c104
                                  clear c104
                                  replace H := Option.bind_eq_some_iff.mp H
                                  obtain ⟨t192, A1050, H⟩ := H
                                  replace H : (some (wrap64 ((wrap64 (t184 * (wrap64 (x16_65 - x15_65)))) + (wrap64 ((wrap64 (t192 * a2_1)) * (wrap64 (x18_76 - x16_65))))), (wrap64 (t185 * a3)), (wrap64 (a3 * (wrap64 ((wrap64 (2 * t186)) + (wrap64 (t187 * (ji76))))))), true)) = some (r1, r2, r3, r4) := H
                                  have A105 := Aside0.mk A1050
                                  clear A1050
                                  simp only [Option.some.injEq, Prod.mk.injEq] at H
                                  obtain ⟨rfl, rfl, rfl, rfl⟩ := H
                                  have p190 : 0 ≤ (a1 : Int) := of_decide_eq_true (by first | (with_reducible assumption) | assumption)
                                  have q190 : a1 < (l0.length : Int) := of_decide_eq_true (by first | (with_reducible assumption) | assumption)
                                  obtain ⟨ad190, e190, hx190_0, hx190_1, hx190_2, hx190_3, hx190_4, hx190_5, hx190_6, hx190_7, hx190_8, hx190_9⟩ := at_T58 HR0.out a1 p190 q190
                                  cases e190
                                  replace hx190_0 := (HB.out.cell (World.block_lt_of_cell? w _ hx190_0)).trans hx190_0
                                  replace hx190_1 := (HB.out.cell (World.block_lt_of_cell? w _ hx190_1)).trans hx190_1
                                  replace hx190_2 := (HB.out.cell (World.block_lt_of_cell? w _ hx190_2)).trans hx190_2
                                  replace hx190_3 := (HB.out.cell (World.block_lt_of_cell? w _ hx190_3)).trans hx190_3
                                  replace hx190_4 := (HB.out.cell (World.block_lt_of_cell? w _ hx190_4)).trans hx190_4
                                  replace hx190_5 := (HB.out.cell (World.block_lt_of_cell? w _ hx190_5)).trans hx190_5
                                  replace hx190_6 := (HB.out.cell (World.block_lt_of_cell? w _ hx190_6)).trans hx190_6
                                  replace hx190_7 := (HB.out.cell (World.block_lt_of_cell? w _ hx190_7)).trans hx190_7
                                  replace hx190_8 := (HB.out.cell (World.block_lt_of_cell? w _ hx190_8)).trans hx190_8
                                  replace hx190_9 := (HB.out.cell (World.block_lt_of_cell? w _ hx190_9)).trans hx190_9
                                  replace p190 := eq_true p190
                                  replace q190 := eq_true q190
                                  try go_wp2
                                  have n0_ := Aside0.mk (blk_drew BK172.out)
                                  have n1_ := Aside0.mk (blk_drew BK173.out)
                                  have n2_ := Aside0.mk (blk_drew BK174.out)
                                  have n3_ := Aside0.mk (blk_drew BK188.out)
                                  have n4_ := Aside0.mk (below_drew1 HB.out)
                                  clear BK172
                                  clear BK173
                                  clear BK174
                                  clear BK188
                                  clear HB
                                  have BK172 := n0_
                                  have BK173 := n1_
                                  have BK174 := n2_
                                  have BK188 := n3_
                                  have HB := n4_
                                  clear n0_ n1_ n2_ n3_ n4_
                                  refine start_ (n := 14) (S := fun w' => w'.cell? ⟨gb188, 0, none⟩ = some (.int .i64 (wrap64 (t184 * (wrap64 (x16_65 - x15_65))))) ∧ w'.cell? ⟨gb188, 1, none⟩ = some (.int .i64 (wrap64 (t185 * a3))) ∧ w'.cell? ⟨gb188, 2, none⟩ = some (.int .i64 (wrap64 (a3 * (wrap64 ((wrap64 (2 * t186)) + (wrap64 (t187 * (ji76)))))))) ∧ w'.cell? ⟨gb174, 0, none⟩ = some (.int .i64 a2_1) ∧ w'.cell? ⟨gb174, 1, none⟩ = some (.int .i64 a2_2)) (ds := [13]) #[false, false, false, false, false, false, false, false, false, false, false, false, false, false] (by kernel_rfl) rfl rfl ⟨(blk_cell BK188.out 0).trans rfl, (blk_cell BK188.out 1).trans rfl, (blk_cell BK188.out 2).trans rfl, (blk_cell BK174.out 0).trans rfl, (blk_cell BK174.out 1).trans rfl⟩ (fun hHeld => ?_); refine with_tabW score_Of.tab20 score_Of.bits20 (fun HT_ HW_ => ?_)
                                  generalize wc.drew = w106 at BK172 BK173 BK174 BK188 HB hHeld ⊢
                                  refine pure_ (i := 0) (N := some 129) (v := ?_) (a' := ?_) #[true, false, false, false, false, false, false, false, false, false, false, false, false, false] rfl rfl (any_of HT_.out (by kernel_rfl)) (fun _ _ _ h => h) (Or.inl ⟨by rfl, ?_⟩) ?_ ?_
                                  rotate_left
                                  · intro w'
                                    go_simp
                                    with_reducible rfl
                                  rotate_left
                                  · simp only [Act.put, List.setIfInBounds_toArray, List.set_cons_zero, List.set_cons_succ, i64_w, i32_w]
                                    rfl
                                  refine pure_ (i := 4) (N := some 133) (v := ?_) (a' := ?_) #[true, false, false, false, true, false, false, false, false, false, false, false, false, false] rfl rfl (any_of HT_.out (by kernel_rfl)) (fun _ _ _ h => h) (Or.inl ⟨by rfl, ?_⟩) ?_ ?_
                                  rotate_left
                                  · intro w'
                                    go_simp
                                    with_reducible rfl
                                  rotate_left
                                  · simp only [Act.put, List.setIfInBounds_toArray, List.set_cons_zero, List.set_cons_succ, i64_w, i32_w]
                                    rfl
                                  refine pure_ (i := 7) (N := some 136) (v := ?_) (a' := ?_) #[true, false, false, false, true, false, false, true, false, false, false, false, false, false] rfl rfl (any_of HT_.out (by kernel_rfl)) (fun _ _ _ h => h) (Or.inl ⟨by rfl, ?_⟩) ?_ ?_
                                  rotate_left
                                  · intro w'
                                    go_simp
                                    with_reducible rfl
                                  rotate_left
                                  · simp only [Act.put, List.setIfInBounds_toArray, List.set_cons_zero, List.set_cons_succ, i64_w, i32_w]
                                    rfl
                                  refine pure_ (i := 8) (N := some 137) (v := ?_) (a' := ?_) #[true, false, false, false, true, false, false, true, true, false, false, false, false, false] rfl rfl (any_of HT_.out (by kernel_rfl)) (fun _ _ _ h => h) (Or.inl ⟨by rfl, ?_⟩) ?_ ?_
                                  rotate_left
                                  · intro w'
                                    go_simp
                                    with_reducible rfl
                                  rotate_left
                                  · simp only [Act.put, List.setIfInBounds_toArray, List.set_cons_zero, List.set_cons_succ, i64_w, i32_w]
                                    rfl
                                  refine pure_ (i := 9) (N := some 138) (v := ?_) (a' := ?_) #[true, false, false, false, true, false, false, true, true, true, false, false, false, false] rfl rfl (any_of HT_.out (by kernel_rfl)) (fun _ _ _ h => h) (Or.inl ⟨by rfl, ?_⟩) ?_ ?_
                                  rotate_left
                                  · intro w'
                                    go_simp
                                    with_reducible rfl
                                  rotate_left
                                  · simp only [Act.put, List.setIfInBounds_toArray, List.set_cons_zero, List.set_cons_succ, i64_w, i32_w]
                                    rfl
                                  refine take_ (i := 1) (N := some 130) (v := ?_) (a' := ?_) #[true, true, false, false, true, false, false, true, true, true, false, false, false, false] rfl rfl (take_ofW HT_.out HW_.out (by kernel_rfl)) (fun _ _ _ h => h) (Or.inl ⟨by rfl, ?_⟩) hHeld ?_ ?_
                                  rotate_left
                                  · rintro w' ⟨s0, s1, s2, s3, s4⟩
                                    go_simp
                                    with_reducible rfl
                                  rotate_left
                                  · simp only [Act.put, List.setIfInBounds_toArray, List.set_cons_zero, List.set_cons_succ, i64_w, i32_w]
                                    rfl
                                  refine take_ (i := 2) (N := some 131) (v := ?_) (a' := ?_) #[true, true, true, false, true, false, false, true, true, true, false, false, false, false] rfl rfl (take_ofW HT_.out HW_.out (by kernel_rfl)) (fun _ _ _ h => h) (Or.inl ⟨by rfl, ?_⟩) hHeld ?_ ?_
                                  rotate_left
                                  · rintro w' ⟨s0, s1, s2, s3, s4⟩
                                    go_simp
                                    with_reducible rfl
                                  rotate_left
                                  · simp only [Act.put, List.setIfInBounds_toArray, List.set_cons_zero, List.set_cons_succ, i64_w, i32_w]
                                    rfl
                                  refine take_ (i := 5) (N := some 134) (v := ?_) (a' := ?_) #[true, true, true, false, true, true, false, true, true, true, false, false, false, false] rfl rfl (take_ofW HT_.out HW_.out (by kernel_rfl)) (fun _ _ _ h => h) (Or.inl ⟨by rfl, ?_⟩) hHeld ?_ ?_
                                  rotate_left
                                  · rintro w' ⟨s0, s1, s2, s3, s4⟩
                                    go_simp
                                    with_reducible rfl
                                  rotate_left
                                  · simp only [Act.put, List.setIfInBounds_toArray, List.set_cons_zero, List.set_cons_succ, i64_w, i32_w]
                                    rfl
                                  refine one_ (i := 3) (N := some 132) #[true, true, true, true, true, true, false, true, true, true, false, false, false, false] rfl rfl (one_of HT_.out (by kernel_rfl)) (by decide) (fun K hK => ?_)
                                  refine goes_ Try.func36 (by kernel_rfl) rfl #[.agg #[.int .i64 a2_1, .int .i64 a2_2]] (by rfl) rfl rfl (by (try simp only [List.map_toArray, List.map_cons, List.map_nil]); first | done | rfl | (simp only [List.length_drop, List.length_take]; rfl)) ?_
                                  with_reducible refine (score_weights_sum.calls a2_1 a2_2 t192 _ A105.out).mono ?_
                                  rintro e w107 ⟨rfl, hb⟩
                                  refine ⟨_, rfl, ?_⟩
                                  have n0_ := Aside0.mk (blk_below (g := gb172) (o := .cells #[.int .i64 a2_0, .int .i64 a2_1, .int .i64 a2_2] 52 (0, 0)) (by (with_reducible repeat (first | refine blk_drewN ?_ _ | refine blk_drew ?_ | refine blk_alloc ?_ _)); exact BK172.out) hb)
                                  have n1_ := Aside0.mk (blk_below (g := gb173) (o := .cells #[.int .i64 x174000_2, .int .i64 x174001_2, .int .i64 x174002_2] 28 (0, 0)) (by (with_reducible repeat (first | refine blk_drewN ?_ _ | refine blk_drew ?_ | refine blk_alloc ?_ _)); exact BK173.out) hb)
                                  have n2_ := Aside0.mk (blk_below (g := gb174) (o := .cells #[.int .i64 a2_1, .int .i64 a2_2] 71 (0, 0)) (by (with_reducible repeat (first | refine blk_drewN ?_ _ | refine blk_drew ?_ | refine blk_alloc ?_ _)); exact BK174.out) hb)
                                  have n3_ := Aside0.mk (blk_below (g := gb188) (o := .cells #[.int .i64 (wrap64 (t184 * (wrap64 (x16_65 - x15_65)))), .int .i64 (wrap64 (t185 * a3)), .int .i64 (wrap64 (a3 * (wrap64 ((wrap64 (2 * t186)) + (wrap64 (t187 * (ji76)))))))] 28 (0, 0)) (by (with_reducible repeat (first | refine blk_drewN ?_ _ | refine blk_drew ?_ | refine blk_alloc ?_ _)); exact BK188.out) hb)
                                  have n4_ := Aside0.mk (below_step (by repeat (first | (with_reducible first | exact HB.out | apply below_alloc | apply pw_below_drewN | apply below_drew1 | refine below_set ?_ GE172.out | refine below_set ?_ GE173.out | refine below_set ?_ GE174.out | refine below_set ?_ GE188.out) | exact HB.out)) hb)
                                  clear BK172
                                  clear BK173
                                  clear BK174
                                  clear BK188
                                  clear HB
                                  have BK172 := n0_
                                  have BK173 := n1_
                                  have BK174 := n2_
                                  have BK188 := n3_
                                  have HB := n4_
                                  clear n0_ n1_ n2_ n3_ n4_
                                  (try clear hb)
                                  (try clear hb2)
                                  (try clear hk)
                                  (try clear hi)
                                  refine hK.out _ _ ⟨(blk_cell BK188.out 0).trans rfl, (blk_cell BK188.out 1).trans rfl, (blk_cell BK188.out 2).trans rfl, (blk_cell BK174.out 0).trans rfl, (blk_cell BK174.out 1).trans rfl⟩ (fun hHeld => ?_)
                                  clear hK K
                                  refine norm_ (a' := ?_) ?_ ?_
                                  rotate_left
                                  · show Act.put _ (some 132) _ = _
                                    simp only [Act.put, List.setIfInBounds_toArray, List.set_cons_zero, List.set_cons_succ, i64_w, i32_w]
                                    rfl
                                  refine pure_ (i := 6) (N := some 135) (v := ?_) (a' := ?_) #[true, true, true, true, true, true, true, true, true, true, false, false, false, false] rfl rfl (any_of HT_.out (by kernel_rfl)) (fun _ _ _ h => h) (Or.inl ⟨by rfl, ?_⟩) ?_ ?_
                                  rotate_left
                                  · intro w'
                                    go_simp
                                    with_reducible rfl
                                  rotate_left
                                  · simp only [Act.put, List.setIfInBounds_toArray, List.set_cons_zero, List.set_cons_succ, i64_w, i32_w]
                                    rfl
                                  refine pure_ (i := 10) (N := some 139) (v := ?_) (a' := ?_) #[true, true, true, true, true, true, true, true, true, true, true, false, false, false] rfl rfl (any_of HT_.out (by kernel_rfl)) (fun _ _ _ h => h) (Or.inl ⟨by rfl, ?_⟩) ?_ ?_
                                  rotate_left
                                  · intro w'
                                    go_simp
                                    with_reducible rfl
                                  rotate_left
                                  · simp only [Act.put, List.setIfInBounds_toArray, List.set_cons_zero, List.set_cons_succ, i64_w, i32_w]
                                    rfl
                                  refine pure_ (i := 11) (N := some 140) (v := ?_) (a' := ?_) #[true, true, true, true, true, true, true, true, true, true, true, true, false, false] rfl rfl (any_of HT_.out (by kernel_rfl)) (fun _ _ _ h => h) (Or.inl ⟨by rfl, ?_⟩) ?_ ?_
                                  rotate_left
                                  · intro w'
                                    go_simp
                                    with_reducible rfl
                                  rotate_left
                                  · simp only [Act.put, List.setIfInBounds_toArray, List.set_cons_zero, List.set_cons_succ, i64_w, i32_w]
                                    rfl
                                  refine pure_ (i := 12) (N := some 141) (v := ?_) (a' := ?_) #[true, true, true, true, true, true, true, true, true, true, true, true, true, false] rfl rfl (any_of HT_.out (by kernel_rfl)) (fun _ _ _ h => h) (Or.inl ⟨by rfl, ?_⟩) ?_ ?_
                                  rotate_left
                                  · intro w'
                                    go_simp
                                    with_reducible rfl
                                  rotate_left
                                  · simp only [Act.put, List.setIfInBounds_toArray, List.set_cons_zero, List.set_cons_succ, i64_w, i32_w]
                                    rfl
                                  refine last_ (i := 13) (N := none) #[true, true, true, true, true, true, true, true, true, true, true, true, true, true] rfl rfl (one_of HT_.out (by kernel_rfl)) (by decide) (fun K hK => ?_)
                                  have hs108 : w107.cell? ⟨gb188, 0, none⟩ = some (.int .i64 (wrap64 (t184 * (wrap64 (x16_65 - x15_65))))) := (blk_cell BK188.out 0).trans rfl
                                  have hfs108 := blk_frozen BK188.out 0
                                  have hns108_0 := NB172_188.out
                                  have hns108_1 := NB173_188.out
                                  have hns108_2 := NB174_188.out
                                  have hms108_0 := NB188_172.out
                                  have hms108_1 := NB188_173.out
                                  have hms108_2 := NB188_174.out
                                  refine skip_ (w1 := ?_) (by rfl) rfl ?_ ?_
                                  rotate_left
                                  · go_simp
                                    rfl
                                  refine hK.out _ _ ?_
                                  clear hK K
                                  refine done_ (done_of HT_.out (by kernel_rfl)) ?_
                                  have hnb109 := NB188_172.out
                                  have hnc109 := NB172_188.out
                                  have hnb110 := NB188_173.out
                                  have hnc110 := NB173_188.out
                                  have hnb111 := NB188_174.out
                                  have hnc111 := NB174_188.out
                                  have hcz112_0 : w107.cell? ⟨gb188, 0, none⟩ = some (.int .i64 (wrap64 (t184 * (wrap64 (x16_65 - x15_65))))) := (blk_cell BK188.out 0).trans rfl
                                  have hcz112_1 : w107.cell? ⟨gb188, 1, none⟩ = some (.int .i64 (wrap64 (t185 * a3))) := (blk_cell BK188.out 1).trans rfl
                                  have hcz112_2 : w107.cell? ⟨gb188, 2, none⟩ = some (.int .i64 (wrap64 (a3 * (wrap64 ((wrap64 (2 * t186)) + (wrap64 (t187 * (ji76)))))))) := (blk_cell BK188.out 2).trans rfl
                                  have hfz112_0 := blk_frozen BK188.out 0
                                  have hfz112_1 := blk_frozen BK188.out 1
                                  have hfz112_2 := blk_frozen BK188.out 2
                                  have hnb113 := NB173_172.out
                                  have hnc113 := NB172_173.out
                                  have hnb114 := NB173_174.out
                                  have hnc114 := NB174_173.out
                                  have hcz115_0 : w107.cell? ⟨gb173, 0, none⟩ = some (.int .i64 x174000_2) := (blk_cell BK173.out 0).trans rfl
                                  have hcz115_1 : w107.cell? ⟨gb173, 1, none⟩ = some (.int .i64 x174001_2) := (blk_cell BK173.out 1).trans rfl
                                  have hcz115_2 : w107.cell? ⟨gb173, 2, none⟩ = some (.int .i64 x174002_2) := (blk_cell BK173.out 2).trans rfl
                                  have hfz115_0 := blk_frozen BK173.out 0
                                  have hfz115_1 := blk_frozen BK173.out 1
                                  have hfz115_2 := blk_frozen BK173.out 2
                                  try go_wp2
                                  refine bodyPost_ret (results_ct rfl _ _ gb173 28 #[.int .i64 (wrap64 ((wrap64 (t184 * (wrap64 (x16_65 - x15_65)))) + (wrap64 ((wrap64 (t192 * a2_1)) * (wrap64 (x18_76 - x16_65)))))), .int .i64 (wrap64 (t185 * a3)), .int .i64 (wrap64 (a3 * (wrap64 ((wrap64 (2 * t186)) + (wrap64 (t187 * (ji76)))))))] (0, 0) _ rfl (by (with_reducible repeat (first | refine blk_drewN ?_ _ | refine blk_drew ?_ | refine blk_alloc ?_ _)); refine blk_put (cs := #[.int .i64 (wrap64 ((wrap64 (t184 * (wrap64 (x16_65 - x15_65)))) + (wrap64 ((wrap64 (t192 * a2_1)) * (wrap64 (x18_76 - x16_65)))))), .int .i64 (wrap64 (t185 * a3)), .int .i64 x174002_2]) ?_ 2 _ rfl; (with_reducible repeat (first | refine blk_drewN ?_ _ | refine blk_drew ?_ | refine blk_alloc ?_ _)); refine blk_put (cs := #[.int .i64 (wrap64 ((wrap64 (t184 * (wrap64 (x16_65 - x15_65)))) + (wrap64 ((wrap64 (t192 * a2_1)) * (wrap64 (x18_76 - x16_65)))))), .int .i64 x174001_2, .int .i64 x174002_2]) ?_ 1 _ rfl; (with_reducible repeat (first | refine blk_drewN ?_ _ | refine blk_drew ?_ | refine blk_alloc ?_ _)); refine blk_put (cs := #[.int .i64 x174000_2, .int .i64 x174001_2, .int .i64 x174002_2]) ?_ 0 _ rfl; (with_reducible repeat (first | refine blk_drewN ?_ _ | refine blk_drew ?_ | refine blk_alloc ?_ _)); refine blk_far ?_ NB173_188.out _; (with_reducible repeat (first | refine blk_drewN ?_ _ | refine blk_drew ?_ | refine blk_alloc ?_ _)); exact BK173.out) Try.underlying28 rfl (by kernel_rfl)) rfl ?_
                                  exact ⟨by first | rfl | (simp [errW_none, errW_some] <;> rfl) | (simp only [← hji36, ← hji76]; first | rfl | (simp [errW_none, errW_some] <;> rfl)) | (simp [*, errW_none, errW_some] <;> rfl), by repeat (first | (with_reducible first | exact HB.out | apply below_alloc | apply pw_below_drewN | apply below_drew1 | refine below_set ?_ GE172.out | refine below_set ?_ GE173.out | refine below_set ?_ GE174.out | refine below_set ?_ GE188.out) | exact HB.out)⟩
                                · rw [if_neg c104] at H
                                  have c104b0 : (((rd_T58 l0 a1).f0.f4) == 2) = false := beq_eq_false_iff_ne.mpr c104
                                  have c104b1 : (((rd_T58 l0 a1).f0.f4) != 2) = true := bne_iff_ne.mpr c104
                                  simp only [Option.some.injEq, Prod.mk.injEq] at H
                                  obtain ⟨rfl, rfl, rfl, rfl⟩ := H
                                  have p190 : 0 ≤ (a1 : Int) := of_decide_eq_true (by first | (with_reducible assumption) | assumption)
                                  have q190 : a1 < (l0.length : Int) := of_decide_eq_true (by first | (with_reducible assumption) | assumption)
                                  obtain ⟨ad190, e190, hx190_0, hx190_1, hx190_2, hx190_3, hx190_4, hx190_5, hx190_6, hx190_7, hx190_8, hx190_9⟩ := at_T58 HR0.out a1 p190 q190
                                  cases e190
                                  replace hx190_0 := (HB.out.cell (World.block_lt_of_cell? w _ hx190_0)).trans hx190_0
                                  replace hx190_1 := (HB.out.cell (World.block_lt_of_cell? w _ hx190_1)).trans hx190_1
                                  replace hx190_2 := (HB.out.cell (World.block_lt_of_cell? w _ hx190_2)).trans hx190_2
                                  replace hx190_3 := (HB.out.cell (World.block_lt_of_cell? w _ hx190_3)).trans hx190_3
                                  replace hx190_4 := (HB.out.cell (World.block_lt_of_cell? w _ hx190_4)).trans hx190_4
                                  replace hx190_5 := (HB.out.cell (World.block_lt_of_cell? w _ hx190_5)).trans hx190_5
                                  replace hx190_6 := (HB.out.cell (World.block_lt_of_cell? w _ hx190_6)).trans hx190_6
                                  replace hx190_7 := (HB.out.cell (World.block_lt_of_cell? w _ hx190_7)).trans hx190_7
                                  replace hx190_8 := (HB.out.cell (World.block_lt_of_cell? w _ hx190_8)).trans hx190_8
                                  replace hx190_9 := (HB.out.cell (World.block_lt_of_cell? w _ hx190_9)).trans hx190_9
                                  replace p190 := eq_true p190
                                  replace q190 := eq_true q190
                                  have hnb116 := NB173_172.out
                                  have hnc116 := NB172_173.out
                                  have hnb117 := NB173_174.out
                                  have hnc117 := NB174_173.out
                                  have hnb118 := NB173_188.out
                                  have hnc118 := NB188_173.out
                                  have hcz119_0 : wc.cell? ⟨gb173, 0, none⟩ = some (.int .i64 x174000_2) := (blk_cell BK173.out 0).trans rfl
                                  have hcz119_1 : wc.cell? ⟨gb173, 1, none⟩ = some (.int .i64 x174001_2) := (blk_cell BK173.out 1).trans rfl
                                  have hcz119_2 : wc.cell? ⟨gb173, 2, none⟩ = some (.int .i64 x174002_2) := (blk_cell BK173.out 2).trans rfl
                                  have hfz119_0 := blk_frozen BK173.out 0
                                  have hfz119_1 := blk_frozen BK173.out 1
                                  have hfz119_2 := blk_frozen BK173.out 2
                                  go_wp2
                                  refine bodyPost_ret (results_ct rfl _ _ gb173 28 #[.int .i64 0, .int .i64 0, .int .i64 0] (0, 0) _ rfl (by (with_reducible repeat (first | refine blk_drewN ?_ _ | refine blk_drew ?_ | refine blk_alloc ?_ _)); refine blk_put (cs := #[.int .i64 0, .int .i64 0, .int .i64 x174002_2]) ?_ 2 _ rfl; (with_reducible repeat (first | refine blk_drewN ?_ _ | refine blk_drew ?_ | refine blk_alloc ?_ _)); refine blk_put (cs := #[.int .i64 0, .int .i64 x174001_2, .int .i64 x174002_2]) ?_ 1 _ rfl; (with_reducible repeat (first | refine blk_drewN ?_ _ | refine blk_drew ?_ | refine blk_alloc ?_ _)); refine blk_put (cs := #[.int .i64 x174000_2, .int .i64 x174001_2, .int .i64 x174002_2]) ?_ 0 _ rfl; (with_reducible repeat (first | refine blk_drewN ?_ _ | refine blk_drew ?_ | refine blk_alloc ?_ _)); exact BK173.out) Try.underlying28 rfl (by kernel_rfl)) rfl ?_
                                  exact ⟨by first | rfl | (simp [errW_none, errW_some] <;> rfl) | (simp only [← hji36, ← hji76]; first | rfl | (simp [errW_none, errW_some] <;> rfl)) | (simp [*, errW_none, errW_some] <;> rfl), by repeat (first | (with_reducible first | exact HB.out | apply below_alloc | apply pw_below_drewN | apply below_drew1 | refine below_set ?_ GE172.out | refine below_set ?_ GE173.out | refine below_set ?_ GE174.out | refine below_set ?_ GE188.out) | exact HB.out)⟩
                            · rw [if_neg c91] at H
                              exact absurd H (by simp)
                          · rw [if_neg c90] at H
                            exact absurd H (by simp)
          · rw [if_neg c38] at H
            exact absurd H (by simp)
        · rw [if_neg c37] at H
          exact absurd H (by simp)

end Go.Proofs.Ytafcnpfhihnmgaa.PA
