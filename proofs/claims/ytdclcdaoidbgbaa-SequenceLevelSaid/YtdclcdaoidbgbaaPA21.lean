-- Written by a program of this seat's session (wip/tools/ownprint.py, over the kit's printer) out of the translation: functions and their contracts.
import Derived.Test.YtdclcdaoidbgbaaPA0
import Derived.Test.YtdclcdaoidbgbaaPA4
import Derived.Test.YtdclcdaoidbgbaaPA20
namespace Go.Proofs.Ytdclcdaoidbgbaa.PA
open Go.RowKit Go.Proofs.YtdclcdaoidbgbaaW.PrintWords Go.Proofs.YtdclcdaoidbgbaaW.PrintLast Go.Proofs.YtdclcdaoidbgbaaW.PrintMore
attribute [local go_sem] max2_int min2_int max_two min_two max_three min_three max_four min_four   -- for this text's walks alone
set_option linter.unusedVariables false
set_option linter.unusedSimpArgs false

/-! ### flagstonelaw41_SequenceLevel: function 4 -/
mutual
def flagstonelaw41_SequenceLevel.j0 : Nat → Bool → Int → List (S36) → Int → Int → Int → Int → Int → Bool → Option (Bool)
 | 0, _, _, _, _, _, _, _, _, _ => none
 | k + 1, x2, x16, x411000, x411001, x411002, x411003, x411004, x411005, x411006 => if x2 = true then (if 1 ≤ (x411000.length : Int) then (flagstonelaw41_SequenceLevel.j1 k 6 (x411000.take (1 : Int).toNat) x411001 x411002 x411003 x411004 x411005 x411006) else (none)) else (flagstonelaw41_SequenceLevel.j1 k x16 x411000 x411001 x411002 x411003 x411004 x411005 x411006)
def flagstonelaw41_SequenceLevel.j1 : Nat → Int → List (S36) → Int → Int → Int → Int → Int → Bool → Option (Bool)
 | 0, _, _, _, _, _, _, _, _ => none
 | k + 1, x16, x411000, x411001, x411002, x411003, x411004, x411005, x411006 => flagstonelaw41_SequenceLevel.l0 k x16 0 0 x411000 x411001 x411002 x411003 x411004 x411005 x411006
def flagstonelaw41_SequenceLevel.l0 : Nat → Int → Int → Int → List (S36) → Int → Int → Int → Int → Int → Bool → Option (Bool)
 | 0, _, _, _, _, _, _, _, _, _, _ => none
 | k + 1, x16, x17, x18, x411000, x411001, x411002, x411003, x411004, x411005, x411006 => if x18 < (x411000.length : Int) then (if 0 ≤ x18 then (flagstonelaw41_SequenceLevel.l0 k x16 (wrap64 (x17 + (wrap64 ((wrap64 (1 + (Int.tmod (wrap64 ((rd_T36 x411000 x18).f0)) 3))) * (wrap64 ((Int.tmod (wrap64 ((rd_T36 x411000 x18).f3)) 21) - (Int.tmod (wrap64 ((rd_T36 x411000 x18).f2)) 21))))))) (wrap64 (x18 + 1)) x411000 (wrap64 (x411001 + (wrap64 (1 + (Int.tmod (wrap64 ((rd_T36 x411000 x18).f0)) 3))))) x411002 x411003 x411004 x411005 x411006) else (none)) else (if x411001 = 0 then (none) else (if (Int.tmod (wrap64 (x17 * 50)) x411001) = 0 then (flagstonelaw41_SequenceLevel.l1 k x16 1 0 x411000 x411001 x411002 x411003 (wrap64 (Int.tdiv (wrap64 (x17 * 50)) x411001)) x411005 x411006) else (some true)))
def flagstonelaw41_SequenceLevel.l1 : Nat → Int → Int → Int → List (S36) → Int → Int → Int → Int → Int → Bool → Option (Bool)
 | 0, _, _, _, _, _, _, _, _, _, _ => none
 | k + 1, x16, x20, x21, x411000, x411001, x411002, x411003, x411004, x411005, x411006 => if x21 < x16 then (flagstonelaw41_SequenceLevel.l1 k x16 (wrap64 (x20 * (wrap64 (x411001 * (wrap64 (x411002 + x411003)))))) (wrap64 (x21 + 1)) x411000 x411001 x411002 x411003 x411004 x411005 x411006) else ((flagstonelaw41_population_misses.f k x411000 x411001 x411002 x411003 x411004 x411005 x411006 ([] : List (S70)) x16).bind fun t416 => (some (decide ((wrap64 (t416 * 1000)) ≤ (wrap64 (x411005 * x20))))))
end
def flagstonelaw41_SequenceLevel.f (k : Nat) (a0_0 : Int) (a0_1 : Int) (a0_2 : Int) (a0_3 : Int) (a1_0 : Int) (a1_1 : Int) (a1_2 : Int) (a1_3 : Int) (a2 : Bool) (a3 : Int) (a4 : Int) (a5 : Int) (a6 : Bool) : Option (Bool) := (flagstonelaw41_awake.f k).bind fun t406 => (if t406 = true then (flagstonelaw41_SequenceLevel.j0 k a2 4 (([(⟨a0_0, a0_1, a0_2, a0_3⟩ : S36), (⟨a1_0, a1_1, a1_2, a1_3⟩ : S36)] : List (S36))) 0 (wrap64 (1 + (Int.tmod (wrap64 (a3)) 3))) (wrap64 (1 + (Int.tmod (wrap64 (a4)) 3))) 0 (wrap64 (400 + (wrap64 ((wrap64 (a5)) * 2)))) a6) else (some false))
theorem flagstonelaw41_SequenceLevel.mono_l : ∀ k, (∀ y0 y1 y2 y3 y4 y5 y6 y7 y8, LeO (flagstonelaw41_SequenceLevel.j0 k y0 y1 y2 y3 y4 y5 y6 y7 y8) (flagstonelaw41_SequenceLevel.j0 (k + 1) y0 y1 y2 y3 y4 y5 y6 y7 y8)) ∧ (∀ y0 y1 y2 y3 y4 y5 y6 y7, LeO (flagstonelaw41_SequenceLevel.j1 k y0 y1 y2 y3 y4 y5 y6 y7) (flagstonelaw41_SequenceLevel.j1 (k + 1) y0 y1 y2 y3 y4 y5 y6 y7)) ∧ (∀ y0 y1 y2 y3 y4 y5 y6 y7 y8 y9, LeO (flagstonelaw41_SequenceLevel.l0 k y0 y1 y2 y3 y4 y5 y6 y7 y8 y9) (flagstonelaw41_SequenceLevel.l0 (k + 1) y0 y1 y2 y3 y4 y5 y6 y7 y8 y9)) ∧ (∀ y0 y1 y2 y3 y4 y5 y6 y7 y8 y9, LeO (flagstonelaw41_SequenceLevel.l1 k y0 y1 y2 y3 y4 y5 y6 y7 y8 y9) (flagstonelaw41_SequenceLevel.l1 (k + 1) y0 y1 y2 y3 y4 y5 y6 y7 y8 y9))
 | 0 => ⟨fun _ _ _ _ _ _ _ _ _ r h => by simp [flagstonelaw41_SequenceLevel.j0] at h, fun _ _ _ _ _ _ _ _ r h => by simp [flagstonelaw41_SequenceLevel.j1] at h, fun _ _ _ _ _ _ _ _ _ _ r h => by simp [flagstonelaw41_SequenceLevel.l0] at h, fun _ _ _ _ _ _ _ _ _ _ r h => by simp [flagstonelaw41_SequenceLevel.l1] at h⟩
 | k + 1 => by
  obtain ⟨ih0, ih1, ih2, ih3⟩ := flagstonelaw41_SequenceLevel.mono_l k
  refine ⟨?_, ?_, ?_, ?_⟩
  ·intro y0 y1 y2 y3 y4 y5 y6 y7 y8
   unfold flagstonelaw41_SequenceLevel.j0
   repeat' first
   | (with_reducible exact ih0 _ _ _ _ _ _ _ _ _)
   | (with_reducible exact ih1 _ _ _ _ _ _ _ _)
   | (with_reducible exact ih2 _ _ _ _ _ _ _ _ _ _)
   | (with_reducible exact ih3 _ _ _ _ _ _ _ _ _ _)
   | (with_reducible exact flagstonelaw41_awake.mono _)
   | (with_reducible exact flagstonelaw41_population_misses.mono _ _ _ _ _ _ _ _ _ _)
   | (with_reducible exact LeO.refl _)
   | (with_reducible exact LeO.none _)
   | (with_reducible refine LeO.ite ?_ ?_)
   | (with_reducible refine LeO.bind ?_ (fun _ => ?_))
   | exact ih0 _ _ _ _ _ _ _ _ _
   | exact ih1 _ _ _ _ _ _ _ _
   | exact ih2 _ _ _ _ _ _ _ _ _ _
   | exact ih3 _ _ _ _ _ _ _ _ _ _
   | exact flagstonelaw41_awake.mono _
   | exact flagstonelaw41_population_misses.mono _ _ _ _ _ _ _ _ _ _
   | exact LeO.none _
   | refine LeO.ite ?_ ?_
   | refine LeO.bind ?_ (fun _ => ?_)
  ·intro y0 y1 y2 y3 y4 y5 y6 y7
   unfold flagstonelaw41_SequenceLevel.j1
   repeat' first
   | (with_reducible exact ih0 _ _ _ _ _ _ _ _ _)
   | (with_reducible exact ih1 _ _ _ _ _ _ _ _)
   | (with_reducible exact ih2 _ _ _ _ _ _ _ _ _ _)
   | (with_reducible exact ih3 _ _ _ _ _ _ _ _ _ _)
   | (with_reducible exact flagstonelaw41_awake.mono _)
   | (with_reducible exact flagstonelaw41_population_misses.mono _ _ _ _ _ _ _ _ _ _)
   | (with_reducible exact LeO.refl _)
   | (with_reducible exact LeO.none _)
   | (with_reducible refine LeO.ite ?_ ?_)
   | (with_reducible refine LeO.bind ?_ (fun _ => ?_))
   | exact ih0 _ _ _ _ _ _ _ _ _
   | exact ih1 _ _ _ _ _ _ _ _
   | exact ih2 _ _ _ _ _ _ _ _ _ _
   | exact ih3 _ _ _ _ _ _ _ _ _ _
   | exact flagstonelaw41_awake.mono _
   | exact flagstonelaw41_population_misses.mono _ _ _ _ _ _ _ _ _ _
   | exact LeO.none _
   | refine LeO.ite ?_ ?_
   | refine LeO.bind ?_ (fun _ => ?_)
  ·intro y0 y1 y2 y3 y4 y5 y6 y7 y8 y9
   unfold flagstonelaw41_SequenceLevel.l0
   repeat' first
   | (with_reducible exact ih0 _ _ _ _ _ _ _ _ _)
   | (with_reducible exact ih1 _ _ _ _ _ _ _ _)
   | (with_reducible exact ih2 _ _ _ _ _ _ _ _ _ _)
   | (with_reducible exact ih3 _ _ _ _ _ _ _ _ _ _)
   | (with_reducible exact flagstonelaw41_awake.mono _)
   | (with_reducible exact flagstonelaw41_population_misses.mono _ _ _ _ _ _ _ _ _ _)
   | (with_reducible exact LeO.refl _)
   | (with_reducible exact LeO.none _)
   | (with_reducible refine LeO.ite ?_ ?_)
   | (with_reducible refine LeO.bind ?_ (fun _ => ?_))
   | exact ih0 _ _ _ _ _ _ _ _ _
   | exact ih1 _ _ _ _ _ _ _ _
   | exact ih2 _ _ _ _ _ _ _ _ _ _
   | exact ih3 _ _ _ _ _ _ _ _ _ _
   | exact flagstonelaw41_awake.mono _
   | exact flagstonelaw41_population_misses.mono _ _ _ _ _ _ _ _ _ _
   | exact LeO.none _
   | refine LeO.ite ?_ ?_
   | refine LeO.bind ?_ (fun _ => ?_)
  ·intro y0 y1 y2 y3 y4 y5 y6 y7 y8 y9
   unfold flagstonelaw41_SequenceLevel.l1
   repeat' first
   | (with_reducible exact ih0 _ _ _ _ _ _ _ _ _)
   | (with_reducible exact ih1 _ _ _ _ _ _ _ _)
   | (with_reducible exact ih2 _ _ _ _ _ _ _ _ _ _)
   | (with_reducible exact ih3 _ _ _ _ _ _ _ _ _ _)
   | (with_reducible exact flagstonelaw41_awake.mono _)
   | (with_reducible exact flagstonelaw41_population_misses.mono _ _ _ _ _ _ _ _ _ _)
   | (with_reducible exact LeO.refl _)
   | (with_reducible exact LeO.none _)
   | (with_reducible refine LeO.ite ?_ ?_)
   | (with_reducible refine LeO.bind ?_ (fun _ => ?_))
   | exact ih0 _ _ _ _ _ _ _ _ _
   | exact ih1 _ _ _ _ _ _ _ _
   | exact ih2 _ _ _ _ _ _ _ _ _ _
   | exact ih3 _ _ _ _ _ _ _ _ _ _
   | exact flagstonelaw41_awake.mono _
   | exact flagstonelaw41_population_misses.mono _ _ _ _ _ _ _ _ _ _
   | exact LeO.none _
   | refine LeO.ite ?_ ?_
   | refine LeO.bind ?_ (fun _ => ?_)
theorem flagstonelaw41_SequenceLevel.mono : ∀ a0 a1 a2 a3 a4 a5 a6 a7 a8 a9 a10 a11 a12 k, LeO (flagstonelaw41_SequenceLevel.f k a0 a1 a2 a3 a4 a5 a6 a7 a8 a9 a10 a11 a12) (flagstonelaw41_SequenceLevel.f (k + 1) a0 a1 a2 a3 a4 a5 a6 a7 a8 a9 a10 a11 a12) := by
 intro a0 a1 a2 a3 a4 a5 a6 a7 a8 a9 a10 a11 a12 k
 obtain ⟨ih0, ih1, ih2, ih3⟩ := flagstonelaw41_SequenceLevel.mono_l k
 unfold flagstonelaw41_SequenceLevel.f
 repeat' first
   | (with_reducible exact ih0 _ _ _ _ _ _ _ _ _)
   | (with_reducible exact ih1 _ _ _ _ _ _ _ _)
   | (with_reducible exact ih2 _ _ _ _ _ _ _ _ _ _)
   | (with_reducible exact ih3 _ _ _ _ _ _ _ _ _ _)
   | (with_reducible exact flagstonelaw41_awake.mono _)
   | (with_reducible exact flagstonelaw41_population_misses.mono _ _ _ _ _ _ _ _ _ _)
   | (with_reducible exact LeO.refl _)
   | (with_reducible exact LeO.none _)
   | (with_reducible refine LeO.ite ?_ ?_)
   | (with_reducible refine LeO.bind ?_ (fun _ => ?_))
   | exact ih0 _ _ _ _ _ _ _ _ _
   | exact ih1 _ _ _ _ _ _ _ _
   | exact ih2 _ _ _ _ _ _ _ _ _ _
   | exact ih3 _ _ _ _ _ _ _ _ _ _
   | exact flagstonelaw41_awake.mono _
   | exact flagstonelaw41_population_misses.mono _ _ _ _ _ _ _ _ _ _
   | exact LeO.none _
   | refine LeO.ite ?_ ?_
   | refine LeO.bind ?_ (fun _ => ?_)
def flagstonelaw41_SequenceLevel.T22 : Bool × List (List Nat × List Nat) := (true, [([], []), ([], []), ([0, 1], [0, 1]), ([2], [2]), ([], []), ([4], [4]), ([], []), ([5, 6], [5, 6]), ([3, 7], [3, 7]), ([8, 2, 0, 1, 2, 3, 4, 5, 6, 7, 8], [8])])
def flagstonelaw41_SequenceLevel.B22 : List Nat := [0, 0, 3, 7, 0, 16, 0, 112, 255, 511]
theorem flagstonelaw41_SequenceLevel.tab22 : rtab .any (opsOf Try.f4 22) = flagstonelaw41_SequenceLevel.T22 := by kernel_rfl
theorem flagstonelaw41_SequenceLevel.bits22 : waitsOk flagstonelaw41_SequenceLevel.T22.2 flagstonelaw41_SequenceLevel.B22 = true := by kernel_rfl
set_option maxHeartbeats 8000000 in
set_option maxRecDepth 100000 in
theorem flagstonelaw41_SequenceLevel.calls (k : Nat) (a0_0 : Int) (a0_1 : Int) (a0_2 : Int) (a0_3 : Int) (a1_0 : Int) (a1_1 : Int) (a1_2 : Int) (a1_3 : Int) (a2 : Bool) (a3 : Int) (a4 : Int) (a5 : Int) (a6 : Bool) (r : Bool) (w : World) (h : flagstonelaw41_SequenceLevel.f k a0_0 a0_1 a0_2 a0_3 a1_0 a1_1 a1_2 a1_3 a2 a3 a4 a5 a6 = some r) :
  Calls Try.prog 4 #[.agg #[.int .u8 a0_0, .int .u8 a0_1, .int .u8 a0_2, .int .u8 a0_3], .agg #[.int .u8 a1_0, .int .u8 a1_1, .int .u8 a1_2, .int .u8 a1_3], .bool a2, .int .u8 a3, .int .u8 a4, .int .u8 a5, .bool a6] w fun e w' => e = .returned (.bool r) ∧ Below w.heap.size w w' := by
 have hu36 := Try.underlying36
 have hu39 := Try.underlying39
 have HB := Aside0.mk (Below.refl w.heap.size w)
 have H : ((flagstonelaw41_awake.f k).bind fun t406 => (if t406 = true then (flagstonelaw41_SequenceLevel.j0 k a2 4 (([(⟨a0_0, a0_1, a0_2, a0_3⟩ : S36), (⟨a1_0, a1_1, a1_2, a1_3⟩ : S36)] : List (S36))) 0 (wrap64 (1 + (Int.tmod (wrap64 (a3)) 3))) (wrap64 (1 + (Int.tmod (wrap64 (a4)) 3))) 0 (wrap64 (400 + (wrap64 ((wrap64 (a5)) * 2)))) a6) else (some false))) = some r := h
 clear h
 replace H := Option.bind_eq_some_iff.mp H
 obtain ⟨t406, A80, H⟩ := H
 replace H : (if t406 = true then (flagstonelaw41_SequenceLevel.j0 k a2 4 (([(⟨a0_0, a0_1, a0_2, a0_3⟩ : S36), (⟨a1_0, a1_1, a1_2, a1_3⟩ : S36)] : List (S36))) 0 (wrap64 (1 + (Int.tmod (wrap64 (a3)) 3))) (wrap64 (1 + (Int.tmod (wrap64 (a4)) 3))) 0 (wrap64 (400 + (wrap64 ((wrap64 (a5)) * 2)))) a6) else (some false)) = some r := H
 have A8 := Aside0.mk A80
 clear A80
 by_cases c9 : t406 = true
 ·subst c9
  have H1 : (flagstonelaw41_SequenceLevel.j0 k a2 4 (([(⟨a0_0, a0_1, a0_2, a0_3⟩ : S36), (⟨a1_0, a1_1, a1_2, a1_3⟩ : S36)] : List (S36))) 0 (wrap64 (1 + (Int.tmod (wrap64 (a3)) 3))) (wrap64 (1 + (Int.tmod (wrap64 (a4)) 3))) 0 (wrap64 (400 + (wrap64 ((wrap64 (a5)) * 2)))) a6) = some r := by rw [if_pos rfl] at H; exact H
  clear H
  have H := H1
  clear H1
  obtain ⟨y407, hy407⟩ : ∃ y_ : List (S36), y_ = (([(⟨a0_0, a0_1, a0_2, a0_3⟩ : S36), (⟨a1_0, a1_1, a1_2, a1_3⟩ : S36)] : List (S36))) := ⟨_, rfl⟩
  replace H : (flagstonelaw41_SequenceLevel.j0 k a2 4 y407 0 (wrap64 (1 + (Int.tmod (wrap64 (a3)) 3))) (wrap64 (1 + (Int.tmod (wrap64 (a4)) 3))) 0 (wrap64 (400 + (wrap64 ((wrap64 (a5)) * 2)))) a6) = some r := by first | (rw [hy407]; with_reducible exact H) | (have H2_ := (Option.bind_some _ _).symm.trans H; rw [hy407]; with_reducible exact H2_) | (have H2_ := (Option.bind_some _ _).symm.trans H; with_reducible exact H2_) | with_reducible exact H | (rw [hy407]; exact H) | exact H
  have Ny407 := Aside0.mk hy407
  clear hy407
  have HC10 := Aside0.mk H
  clear H
  go_enter Try.func4, Try.ntmps4
  go_upto_region 4 with (first | ((with_reducible refine gate_dst (N := 7) rfl ?_); refine box_event ?hg (N := 7) ?hd (cs := #[.int .u8 a0_0, .int .u8 a0_1, .int .u8 a0_2, .int .u8 a0_3]) (t := 36) ?hr ?_; (case hd => rfl); (case hg => rfl); (case hr => first | (go_simp; done) | (go_simp; rfl)); intro gb404 hg w11 hbox hb; have n0_ := Aside0.mk (below_step (by repeat (first | (with_reducible first | exact HB.out | apply below_alloc | apply pw_below_drewN | apply below_drew1) | exact HB.out)) hb); have n1_ := Aside0.mk (hbox); have n2_ := Aside0.mk ((by rw [hg]; exact (below_size (by repeat (first | (with_reducible first | exact HB.out | apply below_alloc | apply pw_below_drewN | apply below_drew1) | exact HB.out))) : w.heap.size ≤ gb404)); have n3_ := Aside0.mk ((by rw [hg]; exact (below_size (by repeat (first | (with_reducible first | exact HB.out | apply below_alloc | apply pw_below_drewN | apply below_drew1) | exact HB.out))) : w.heap.size ≤ gb404)); clear HB; have HB := n0_; have BK404 := n1_; have GW404 := n2_; have GE404 := n3_; clear n0_ n1_ n2_ n3_; clear hb hbox hg) | ((with_reducible refine gate_dst (N := 8) rfl ?_); refine box_event ?hg (N := 8) ?hd (cs := #[.int .u8 a1_0, .int .u8 a1_1, .int .u8 a1_2, .int .u8 a1_3]) (t := 36) ?hr ?_; (case hd => rfl); (case hg => rfl); (case hr => first | (go_simp; done) | (go_simp; rfl)); intro gb405 hg w12 hbox hb; have n0_ := Aside0.mk (blk_below (g := gb404) (o := .cells #[.int .u8 a0_0, .int .u8 a0_1, .int .u8 a0_2, .int .u8 a0_3] 36 (0, 0)) (by (with_reducible repeat (first | refine blk_drewN ?_ _ | refine blk_drew ?_ | refine blk_alloc ?_ _)); exact BK404.out) hb); have n1_ := Aside0.mk (below_step (by repeat (first | (with_reducible first | exact HB.out | apply below_alloc | apply pw_below_drewN | apply below_drew1 | refine below_set ?_ GE404.out) | exact HB.out)) hb); have n2_ := Aside0.mk (hbox); have n3_ := Aside0.mk ((by rw [hg]; exact (below_size (by repeat (first | (with_reducible first | exact HB.out | apply below_alloc | apply pw_below_drewN | apply below_drew1 | refine below_set ?_ GE404.out) | exact HB.out))) : w.heap.size ≤ gb405)); have n4_ := Aside0.mk ((by rw [hg]; exact (below_size (by repeat (first | (with_reducible first | exact HB.out | apply below_alloc | apply pw_below_drewN | apply below_drew1 | refine below_set ?_ GE404.out) | exact HB.out))) : w.heap.size ≤ gb405)); have n5_ := Aside0.mk ((by rw [hg]; exact Nat.ne_of_lt (blk_lt (g := gb404) (o := .cells #[.int .u8 a0_0, .int .u8 a0_1, .int .u8 a0_2, .int .u8 a0_3] 36 (0, 0)) (by (with_reducible repeat (first | refine blk_drewN ?_ _ | refine blk_drew ?_ | refine blk_alloc ?_ _)); exact BK404.out)) : gb404 ≠ gb405)); have n6_ := Aside0.mk ((by rw [hg]; exact Nat.ne_of_gt (blk_lt (g := gb404) (o := .cells #[.int .u8 a0_0, .int .u8 a0_1, .int .u8 a0_2, .int .u8 a0_3] 36 (0, 0)) (by (with_reducible repeat (first | refine blk_drewN ?_ _ | refine blk_drew ?_ | refine blk_alloc ?_ _)); exact BK404.out)) : gb405 ≠ gb404)); clear BK404; clear HB; have BK404 := n0_; have HB := n1_; have BK405 := n2_; have GW405 := n3_; have GE405 := n4_; have NB404_405 := n5_; have NB405_404 := n6_; clear n0_ n1_ n2_ n3_ n4_ n5_ n6_; clear hb hbox hg) | ((with_reducible refine gate_callee (f := 10) rfl ?_); refine goesL_ (some 22) rfl rfl Try.func10 (by kernel_rfl) rfl #[] rfl (by (try simp only [List.map_toArray, List.map_cons, List.map_nil]); first | done | rfl | (simp only [List.length_drop, List.length_take]; rfl)) ?_; (with_reducible refine (flagstonelaw41_awake.calls k  true _ A8.out).mono ?_); rintro e w13 ⟨rfl, hb⟩; refine ⟨_, rfl, ?_⟩; have n0_ := Aside0.mk (blk_below (g := gb404) (o := .cells #[.int .u8 a0_0, .int .u8 a0_1, .int .u8 a0_2, .int .u8 a0_3] 36 (0, 0)) (by (with_reducible repeat (first | refine blk_drewN ?_ _ | refine blk_drew ?_ | refine blk_alloc ?_ _)); exact BK404.out) hb); have n1_ := Aside0.mk (blk_below (g := gb405) (o := .cells #[.int .u8 a1_0, .int .u8 a1_1, .int .u8 a1_2, .int .u8 a1_3] 36 (0, 0)) (by (with_reducible repeat (first | refine blk_drewN ?_ _ | refine blk_drew ?_ | refine blk_alloc ?_ _)); exact BK405.out) hb); have n2_ := Aside0.mk (below_step (by repeat (first | (with_reducible first | exact HB.out | apply below_alloc | apply pw_below_drewN | apply below_drew1 | refine below_set ?_ GE404.out | refine below_set ?_ GE405.out) | exact HB.out)) hb); clear BK404; clear BK405; clear HB; have BK404 := n0_; have BK405 := n1_; have HB := n2_; clear n0_ n1_ n2_; (try clear hb); (try clear hb2); (try clear hk); (try clear hi); have hnb14 := NB404_405.out; have hnc14 := NB405_404.out; have hcz15_0 : w13.cell? ⟨gb404, 0, none⟩ = some (.int .u8 a0_0) := (blk_cell BK404.out 0).trans rfl; have hcz15_1 : w13.cell? ⟨gb404, 1, none⟩ = some (.int .u8 a0_1) := (blk_cell BK404.out 1).trans rfl; have hcz15_2 : w13.cell? ⟨gb404, 2, none⟩ = some (.int .u8 a0_2) := (blk_cell BK404.out 2).trans rfl; have hcz15_3 : w13.cell? ⟨gb404, 3, none⟩ = some (.int .u8 a0_3) := (blk_cell BK404.out 3).trans rfl; have hfz15_0 := blk_frozen BK404.out 0; have hfz15_1 := blk_frozen BK404.out 1; have hfz15_2 := blk_frozen BK404.out 2; have hfz15_3 := blk_frozen BK404.out 3; have hcz16_0 : w13.cell? ⟨gb405, 0, none⟩ = some (.int .u8 a1_0) := (blk_cell BK405.out 0).trans rfl; have hcz16_1 : w13.cell? ⟨gb405, 1, none⟩ = some (.int .u8 a1_1) := (blk_cell BK405.out 1).trans rfl; have hcz16_2 : w13.cell? ⟨gb405, 2, none⟩ = some (.int .u8 a1_2) := (blk_cell BK405.out 2).trans rfl; have hcz16_3 : w13.cell? ⟨gb405, 3, none⟩ = some (.int .u8 a1_3) := (blk_cell BK405.out 3).trans rfl; have hfz16_0 := blk_frozen BK405.out 0; have hfz16_1 := blk_frozen BK405.out 1; have hfz16_2 := blk_frozen BK405.out 2; have hfz16_3 := blk_frozen BK405.out 3) | ((with_reducible refine gate_dst (N := 26) rfl ?_); refine Kd.R_lit k36 _ 36 ?hg (N := 26) ?hd (xs := ([(⟨a0_0, a0_1, a0_2, a0_3⟩ : S36), (⟨a1_0, a1_1, a1_2, a1_3⟩ : S36)] : List (S36))) (inner := [.int .u8 a0_0, .int .u8 a0_1, .int .u8 a0_2, .int .u8 a0_3, .int .u8 a1_0, .int .u8 a1_1, .int .u8 a1_2, .int .u8 a1_3]) (ok := fun _ => True) (okp := fun _ => True) ?hr ?hp (fun _ hk => hk) trivial (Below.refl _ _) (Nat.le_refl _) (by simp) ?_; (case hd => rfl); (case hg => rfl); (case hr => first | (go_simp; done) | (go_simp; rfl)); (case hp => exact (Reps.c4 (show Kd.M k36 _ _ _ (⟨a0_0, a0_1, a0_2, a0_3⟩ : S36) [.int .u8 a0_0, .int .u8 a0_1, .int .u8 a0_2, .int .u8 a0_3] from (k36_mkM _ _ _ (⟨a0_0, a0_1, a0_2, a0_3⟩ : S36) )) (Reps.c4 (show Kd.M k36 _ _ _ (⟨a1_0, a1_1, a1_2, a1_3⟩ : S36) [.int .u8 a1_0, .int .u8 a1_1, .int .u8 a1_2, .int .u8 a1_3] from (k36_mkM _ _ _ (⟨a1_0, a1_1, a1_2, a1_3⟩ : S36) )) (Reps.none _ _)))); intro v408 w17 ho18 hb hg_ hnew_; clear hg_ hnew_; (first | rw [← Ny407.out] at ho18 | (simp only [Int.reduceToNat] at ho18; rw [← Ny407.out] at ho18)); have n0_ := Aside0.mk (Kd.R_lower (Kd.R_newB (Kd.R_newB ho18 (g := gb404) (o := .cells #[.int .u8 a0_0, .int .u8 a0_1, .int .u8 a0_2, .int .u8 a0_3] 36 (0, 0)) (by (with_reducible repeat (first | refine blk_drewN ?_ _ | refine blk_drew ?_ | refine blk_alloc ?_ _)); exact BK404.out)) (g := gb405) (o := .cells #[.int .u8 a1_0, .int .u8 a1_1, .int .u8 a1_2, .int .u8 a1_3] 36 (0, 0)) (by (with_reducible repeat (first | refine blk_drewN ?_ _ | refine blk_drew ?_ | refine blk_alloc ?_ _)); exact BK405.out)) (below_size (by repeat (first | (with_reducible first | exact HB.out | apply below_alloc | apply pw_below_drewN | apply below_drew1 | refine below_set ?_ GE404.out | refine below_set ?_ GE405.out) | exact HB.out)))); have n1_ := Aside0.mk (blk_below (g := gb404) (o := .cells #[.int .u8 a0_0, .int .u8 a0_1, .int .u8 a0_2, .int .u8 a0_3] 36 (0, 0)) (by (with_reducible repeat (first | refine blk_drewN ?_ _ | refine blk_drew ?_ | refine blk_alloc ?_ _)); exact BK404.out) hb); have n2_ := Aside0.mk (blk_below (g := gb405) (o := .cells #[.int .u8 a1_0, .int .u8 a1_1, .int .u8 a1_2, .int .u8 a1_3] 36 (0, 0)) (by (with_reducible repeat (first | refine blk_drewN ?_ _ | refine blk_drew ?_ | refine blk_alloc ?_ _)); exact BK405.out) hb); have n3_ := Aside0.mk (below_step (by repeat (first | (with_reducible first | exact HB.out | apply below_alloc | apply pw_below_drewN | apply below_drew1 | refine below_set ?_ GE404.out | refine below_set ?_ GE405.out) | exact HB.out)) hb); clear BK404; clear BK405; clear HB; have HO409 := n0_; have BK404 := n1_; have BK405 := n2_; have HB := n3_; clear n0_ n1_ n2_ n3_; clear hb ho18; obtain ⟨Ao19, co19, eo19⟩ := Kd.R_slice HO409.out; subst eo19) | ((with_reducible refine gate_dst (N := 15) rfl ?_); refine box_event ?hg (N := 15) ?hd (cs := #[.slice none 0 0, .int .i64 0, .int .i64 0, .int .i64 0, .int .i64 0, .int .i64 0, .bool false]) (t := 39) ?hr ?_; (case hd => rfl); (case hg => rfl); (case hr => first | (go_simp; done) | (go_simp; rfl)); intro gb410 hg w20 hbox hb; have n0_ := Aside0.mk (Kd.R_below (by (with_reducible repeat (first | apply Kd.R_alloc | apply Kd.R_drewN | apply Kd.R_drew)); exact HO409.out) hb); have n1_ := Aside0.mk (blk_below (g := gb404) (o := .cells #[.int .u8 a0_0, .int .u8 a0_1, .int .u8 a0_2, .int .u8 a0_3] 36 (0, 0)) (by (with_reducible repeat (first | refine blk_drewN ?_ _ | refine blk_drew ?_ | refine blk_alloc ?_ _)); exact BK404.out) hb); have n2_ := Aside0.mk (blk_below (g := gb405) (o := .cells #[.int .u8 a1_0, .int .u8 a1_1, .int .u8 a1_2, .int .u8 a1_3] 36 (0, 0)) (by (with_reducible repeat (first | refine blk_drewN ?_ _ | refine blk_drew ?_ | refine blk_alloc ?_ _)); exact BK405.out) hb); have n3_ := Aside0.mk (below_step (by repeat (first | (with_reducible first | exact HB.out | apply below_alloc | apply pw_below_drewN | apply below_drew1 | refine below_set ?_ GE404.out | refine below_set ?_ GE405.out) | exact HB.out)) hb); have n4_ := Aside0.mk (hbox); have n5_ := Aside0.mk ((by rw [hg]; exact (below_size (by repeat (first | (with_reducible first | exact HB.out | apply below_alloc | apply pw_below_drewN | apply below_drew1 | refine below_set ?_ GE404.out | refine below_set ?_ GE405.out) | exact HB.out))) : w.heap.size ≤ gb410)); have n6_ := Aside0.mk ((by rw [hg]; exact (below_size (by repeat (first | (with_reducible first | exact HB.out | apply below_alloc | apply pw_below_drewN | apply below_drew1 | refine below_set ?_ GE404.out | refine below_set ?_ GE405.out) | exact HB.out))) : w.heap.size ≤ gb410)); have n7_ := Aside0.mk ((by rw [hg]; exact Nat.ne_of_lt (blk_lt (g := gb404) (o := .cells #[.int .u8 a0_0, .int .u8 a0_1, .int .u8 a0_2, .int .u8 a0_3] 36 (0, 0)) (by (with_reducible repeat (first | refine blk_drewN ?_ _ | refine blk_drew ?_ | refine blk_alloc ?_ _)); exact BK404.out)) : gb404 ≠ gb410)); have n8_ := Aside0.mk ((by rw [hg]; exact Nat.ne_of_gt (blk_lt (g := gb404) (o := .cells #[.int .u8 a0_0, .int .u8 a0_1, .int .u8 a0_2, .int .u8 a0_3] 36 (0, 0)) (by (with_reducible repeat (first | refine blk_drewN ?_ _ | refine blk_drew ?_ | refine blk_alloc ?_ _)); exact BK404.out)) : gb410 ≠ gb404)); have n9_ := Aside0.mk ((by rw [hg]; exact Nat.ne_of_lt (blk_lt (g := gb405) (o := .cells #[.int .u8 a1_0, .int .u8 a1_1, .int .u8 a1_2, .int .u8 a1_3] 36 (0, 0)) (by (with_reducible repeat (first | refine blk_drewN ?_ _ | refine blk_drew ?_ | refine blk_alloc ?_ _)); exact BK405.out)) : gb405 ≠ gb410)); have n10_ := Aside0.mk ((by rw [hg]; exact Nat.ne_of_gt (blk_lt (g := gb405) (o := .cells #[.int .u8 a1_0, .int .u8 a1_1, .int .u8 a1_2, .int .u8 a1_3] 36 (0, 0)) (by (with_reducible repeat (first | refine blk_drewN ?_ _ | refine blk_drew ?_ | refine blk_alloc ?_ _)); exact BK405.out)) : gb410 ≠ gb405)); clear HO409; clear BK404; clear BK405; clear HB; have HO409 := n0_; have BK404 := n1_; have BK405 := n2_; have HB := n3_; have BK410 := n4_; have GW410 := n5_; have GE410 := n6_; have NB404_410 := n7_; have NB410_404 := n8_; have NB405_410 := n9_; have NB410_405 := n10_; clear n0_ n1_ n2_ n3_ n4_ n5_ n6_ n7_ n8_ n9_ n10_; clear hb hbox hg; have hnb21 := NB410_404.out; have hnc21 := NB404_410.out; have hnb22 := NB410_405.out; have hnc22 := NB405_410.out; have hcz23_0 : w20.cell? ⟨gb410, 0, none⟩ = some (.slice none 0 0) := (blk_cell BK410.out 0).trans rfl; have hcz23_1 : w20.cell? ⟨gb410, 1, none⟩ = some (.int .i64 0) := (blk_cell BK410.out 1).trans rfl; have hcz23_2 : w20.cell? ⟨gb410, 2, none⟩ = some (.int .i64 0) := (blk_cell BK410.out 2).trans rfl; have hcz23_3 : w20.cell? ⟨gb410, 3, none⟩ = some (.int .i64 0) := (blk_cell BK410.out 3).trans rfl; have hcz23_4 : w20.cell? ⟨gb410, 4, none⟩ = some (.int .i64 0) := (blk_cell BK410.out 4).trans rfl; have hcz23_5 : w20.cell? ⟨gb410, 5, none⟩ = some (.int .i64 0) := (blk_cell BK410.out 5).trans rfl; have hcz23_6 : w20.cell? ⟨gb410, 6, none⟩ = some (.bool false) := (blk_cell BK410.out 6).trans rfl; have hfz23_0 := blk_frozen BK410.out 0; have hfz23_1 := blk_frozen BK410.out 1; have hfz23_2 := blk_frozen BK410.out 2; have hfz23_3 := blk_frozen BK410.out 3; have hfz23_4 := blk_frozen BK410.out 4; have hfz23_5 := blk_frozen BK410.out 5; have hfz23_6 := blk_frozen BK410.out 6))
  (try simp only [Act.put, List.setIfInBounds_toArray, List.set_cons_zero, List.set_cons_succ])
  go_cut [16] (fun v16 wc => ∃ (kq : Nat) (x16_9 : Int), v16 = .int .i64 x16_9 ∧ Aside0 (flagstonelaw41_SequenceLevel.j0 kq a2 x16_9 y407 0 (wrap64 (1 + (Int.tmod (wrap64 (a3)) 3))) (wrap64 (1 + (Int.tmod (wrap64 (a4)) 3))) 0 (wrap64 (400 + (wrap64 ((wrap64 (a5)) * 2)))) a6 = some r) ∧ Aside0 (kq ≤ k) ∧ Aside0 (Kd.R k36 36 wc w.heap.size (fun k_ => k_ ≠ gb404 ∧ k_ ≠ gb405) (.slice Ao19 y407.length co19) y407) ∧ Aside0 (wc.heap[gb404]? = some (.cells #[.int .u8 a0_0, .int .u8 a0_1, .int .u8 a0_2, .int .u8 a0_3] 36 (0, 0))) ∧ Aside0 (wc.heap[gb405]? = some (.cells #[.int .u8 a1_0, .int .u8 a1_1, .int .u8 a1_2, .int .u8 a1_3] 36 (0, 0))) ∧ Aside0 (wc.heap[gb410]? = some (.cells #[(.slice Ao19 y407.length co19), .int .i64 0, .int .i64 (wrap64 (1 + (Int.tmod (wrap64 (a3)) 3))), .int .i64 (wrap64 (1 + (Int.tmod (wrap64 (a4)) 3))), .int .i64 0, .int .i64 (wrap64 (400 + (wrap64 ((wrap64 (a5)) * 2)))), .bool a6] 39 (0, 0))) ∧ Aside0 (Below w.heap.size w wc))
  case first =>
   have H := HC10.out
   clear HC10
   have H' := Aside0.mk H
   clear H
   go_wp2
   go_meet
   case rel => exact ⟨_, (4), (by first | rfl | (simp; done) | (simp [*]; done) | exact congrArg (Value.int _) (by unfold wrap64; omega)), H', ⟨by first | omega | exact Nat.le_refl _⟩, ⟨by (with_reducible repeat (first | apply Kd.R_alloc | apply Kd.R_drewN | apply Kd.R_drew)); exact Kd.R_mono (Kd.R_far (p := ⟨gb410, 6, none⟩) (Kd.R_far (p := ⟨gb410, 5, none⟩) (Kd.R_far (p := ⟨gb410, 4, none⟩) (Kd.R_far (p := ⟨gb410, 3, none⟩) (Kd.R_far (p := ⟨gb410, 2, none⟩) (Kd.R_far (p := ⟨gb410, 1, none⟩) (Kd.R_far (p := ⟨gb410, 0, none⟩) (Kd.R_types HO409.out BK410.out (by decide)) (fun _ hk => hk.2) (.slice Ao19 y407.length co19)) (fun _ hk => hk.2) (.int .i64 0)) (fun _ hk => hk.2) (.int .i64 (wrap64 (1 + (Int.tmod (wrap64 (a3)) 3))))) (fun _ hk => hk.2) (.int .i64 (wrap64 (1 + (Int.tmod (wrap64 (a4)) 3))))) (fun _ hk => hk.2) (.int .i64 0)) (fun _ hk => hk.2) (.int .i64 (wrap64 (400 + (wrap64 ((wrap64 (a5)) * 2)))))) (fun _ hk => hk.2) (.bool a6)) (fun _ hk => ⟨hk.1.1.2, hk.1.2⟩)⟩, ⟨by (with_reducible repeat (first | refine blk_drewN ?_ _ | refine blk_drew ?_ | refine blk_alloc ?_ _)); refine blk_far ?_ NB404_410.out _; (with_reducible repeat (first | refine blk_drewN ?_ _ | refine blk_drew ?_ | refine blk_alloc ?_ _)); refine blk_far ?_ NB404_410.out _; (with_reducible repeat (first | refine blk_drewN ?_ _ | refine blk_drew ?_ | refine blk_alloc ?_ _)); refine blk_far ?_ NB404_410.out _; (with_reducible repeat (first | refine blk_drewN ?_ _ | refine blk_drew ?_ | refine blk_alloc ?_ _)); refine blk_far ?_ NB404_410.out _; (with_reducible repeat (first | refine blk_drewN ?_ _ | refine blk_drew ?_ | refine blk_alloc ?_ _)); refine blk_far ?_ NB404_410.out _; (with_reducible repeat (first | refine blk_drewN ?_ _ | refine blk_drew ?_ | refine blk_alloc ?_ _)); refine blk_far ?_ NB404_410.out _; (with_reducible repeat (first | refine blk_drewN ?_ _ | refine blk_drew ?_ | refine blk_alloc ?_ _)); refine blk_far ?_ NB404_410.out _; (with_reducible repeat (first | refine blk_drewN ?_ _ | refine blk_drew ?_ | refine blk_alloc ?_ _)); exact BK404.out⟩, ⟨by (with_reducible repeat (first | refine blk_drewN ?_ _ | refine blk_drew ?_ | refine blk_alloc ?_ _)); refine blk_far ?_ NB405_410.out _; (with_reducible repeat (first | refine blk_drewN ?_ _ | refine blk_drew ?_ | refine blk_alloc ?_ _)); refine blk_far ?_ NB405_410.out _; (with_reducible repeat (first | refine blk_drewN ?_ _ | refine blk_drew ?_ | refine blk_alloc ?_ _)); refine blk_far ?_ NB405_410.out _; (with_reducible repeat (first | refine blk_drewN ?_ _ | refine blk_drew ?_ | refine blk_alloc ?_ _)); refine blk_far ?_ NB405_410.out _; (with_reducible repeat (first | refine blk_drewN ?_ _ | refine blk_drew ?_ | refine blk_alloc ?_ _)); refine blk_far ?_ NB405_410.out _; (with_reducible repeat (first | refine blk_drewN ?_ _ | refine blk_drew ?_ | refine blk_alloc ?_ _)); refine blk_far ?_ NB405_410.out _; (with_reducible repeat (first | refine blk_drewN ?_ _ | refine blk_drew ?_ | refine blk_alloc ?_ _)); refine blk_far ?_ NB405_410.out _; (with_reducible repeat (first | refine blk_drewN ?_ _ | refine blk_drew ?_ | refine blk_alloc ?_ _)); exact BK405.out⟩, ⟨by (with_reducible repeat (first | refine blk_drewN ?_ _ | refine blk_drew ?_ | refine blk_alloc ?_ _)); refine blk_put (cs := #[.slice Ao19 y407.length co19, .int .i64 0, .int .i64 (wrap64 (1 + (Int.tmod (wrap64 (a3)) 3))), .int .i64 (wrap64 (1 + (Int.tmod (wrap64 (a4)) 3))), .int .i64 0, .int .i64 (wrap64 (400 + (wrap64 ((wrap64 (a5)) * 2)))), .bool false]) ?_ 6 _ rfl; (with_reducible repeat (first | refine blk_drewN ?_ _ | refine blk_drew ?_ | refine blk_alloc ?_ _)); refine blk_put (cs := #[.slice Ao19 y407.length co19, .int .i64 0, .int .i64 (wrap64 (1 + (Int.tmod (wrap64 (a3)) 3))), .int .i64 (wrap64 (1 + (Int.tmod (wrap64 (a4)) 3))), .int .i64 0, .int .i64 0, .bool false]) ?_ 5 _ rfl; (with_reducible repeat (first | refine blk_drewN ?_ _ | refine blk_drew ?_ | refine blk_alloc ?_ _)); refine blk_put (cs := #[.slice Ao19 y407.length co19, .int .i64 0, .int .i64 (wrap64 (1 + (Int.tmod (wrap64 (a3)) 3))), .int .i64 (wrap64 (1 + (Int.tmod (wrap64 (a4)) 3))), .int .i64 0, .int .i64 0, .bool false]) ?_ 4 _ rfl; (with_reducible repeat (first | refine blk_drewN ?_ _ | refine blk_drew ?_ | refine blk_alloc ?_ _)); refine blk_put (cs := #[.slice Ao19 y407.length co19, .int .i64 0, .int .i64 (wrap64 (1 + (Int.tmod (wrap64 (a3)) 3))), .int .i64 0, .int .i64 0, .int .i64 0, .bool false]) ?_ 3 _ rfl; (with_reducible repeat (first | refine blk_drewN ?_ _ | refine blk_drew ?_ | refine blk_alloc ?_ _)); refine blk_put (cs := #[.slice Ao19 y407.length co19, .int .i64 0, .int .i64 0, .int .i64 0, .int .i64 0, .int .i64 0, .bool false]) ?_ 2 _ rfl; (with_reducible repeat (first | refine blk_drewN ?_ _ | refine blk_drew ?_ | refine blk_alloc ?_ _)); refine blk_put (cs := #[.slice Ao19 y407.length co19, .int .i64 0, .int .i64 0, .int .i64 0, .int .i64 0, .int .i64 0, .bool false]) ?_ 1 _ rfl; (with_reducible repeat (first | refine blk_drewN ?_ _ | refine blk_drew ?_ | refine blk_alloc ?_ _)); refine blk_put (cs := #[.slice none 0 0, .int .i64 0, .int .i64 0, .int .i64 0, .int .i64 0, .int .i64 0, .bool false]) ?_ 0 _ rfl; (with_reducible repeat (first | refine blk_drewN ?_ _ | refine blk_drew ?_ | refine blk_alloc ?_ _)); exact BK410.out⟩, ⟨by repeat (first | (with_reducible first | exact HB.out | apply below_alloc | apply pw_below_drewN | apply below_drew1 | refine below_set ?_ GE404.out | refine below_set ?_ GE405.out | refine below_set ?_ GE410.out) | exact HB.out)⟩⟩
  case rest =>
   clear HC10
   try clear c1
   try clear c2
   try clear p2
   try clear c4
   try clear p6
   try clear c9
   try clear c10
   try clear c14
   try clear c21
   try clear c22
   try clear hcz15_0
   try clear hcz15_1
   try clear hcz15_2
   try clear hcz15_3
   try clear hcz16_0
   try clear hcz16_1
   try clear hcz16_2
   try clear hcz16_3
   try clear hcz23_0
   try clear hcz23_1
   try clear hcz23_2
   try clear hcz23_3
   try clear hcz23_4
   try clear hcz23_5
   try clear hcz23_6
   try clear hfz15_0
   try clear hfz15_1
   try clear hfz15_2
   try clear hfz15_3
   try clear hfz16_0
   try clear hfz16_1
   try clear hfz16_2
   try clear hfz16_3
   try clear hfz23_0
   try clear hfz23_1
   try clear hfz23_2
   try clear hfz23_3
   try clear hfz23_4
   try clear hfz23_5
   try clear hfz23_6
   obtain ⟨kq, x16_9, rfl, HA, HJ9, HO_411000, BK404, BK405, BK410, HB⟩ := hcut
   cases kq with
   | zero => exact absurd HA.out (by simp [flagstonelaw41_SequenceLevel.j0])
   | succ kj9 =>
    have H := HA.out
    clear HA
    simp only [flagstonelaw41_SequenceLevel.j0] at H
    have HC24 := Aside0.mk H
    clear H
    go_upto_if 41 with (fail)
    go_cut [16] (fun v16 wc => ∃ (kq : Nat) (x16_23 : Int) (x411000_23 : List (S36)) (u411000 : Value), v16 = .int .i64 x16_23 ∧ Aside0 (flagstonelaw41_SequenceLevel.j1 kq x16_23 x411000_23 0 (wrap64 (1 + (Int.tmod (wrap64 (a3)) 3))) (wrap64 (1 + (Int.tmod (wrap64 (a4)) 3))) 0 (wrap64 (400 + (wrap64 ((wrap64 (a5)) * 2)))) a6 = some r) ∧ Aside0 (kq ≤ kj9) ∧ Aside0 (Kd.R k36 36 wc w.heap.size (fun k_ => k_ ≠ gb404 ∧ k_ ≠ gb405) u411000 x411000_23) ∧ Aside0 (wc.heap[gb404]? = some (.cells #[.int .u8 a0_0, .int .u8 a0_1, .int .u8 a0_2, .int .u8 a0_3] 36 (0, 0))) ∧ Aside0 (wc.heap[gb405]? = some (.cells #[.int .u8 a1_0, .int .u8 a1_1, .int .u8 a1_2, .int .u8 a1_3] 36 (0, 0))) ∧ Aside0 (wc.heap[gb410]? = some (.cells #[u411000, .int .i64 0, .int .i64 (wrap64 (1 + (Int.tmod (wrap64 (a3)) 3))), .int .i64 (wrap64 (1 + (Int.tmod (wrap64 (a4)) 3))), .int .i64 0, .int .i64 (wrap64 (400 + (wrap64 ((wrap64 (a5)) * 2)))), .bool a6] 39 (0, 0))) ∧ Aside0 (Below w.heap.size w wc))
    case first =>
     have H := HC24.out
     clear HC24
     by_cases c25 : a2 = true
     ·subst c25
      have H1 : (if 1 ≤ (y407.length : Int) then (flagstonelaw41_SequenceLevel.j1 kj9 6 (y407.take (1 : Int).toNat) 0 (wrap64 (1 + (Int.tmod (wrap64 (a3)) 3))) (wrap64 (1 + (Int.tmod (wrap64 (a4)) 3))) 0 (wrap64 (400 + (wrap64 ((wrap64 (a5)) * 2)))) a6) else (none)) = some r := by rw [if_pos rfl] at H; exact H
      clear H
      have H := H1
      clear H1
      by_cases c26 : 1 ≤ (y407.length : Int)
      ·rw [if_pos c26] at H
       have c26b0 := eq_true c26
       have c26b1 : decide (1 ≤ (y407.length : Int)) = true := decide_eq_true c26
       clear c26
       obtain ⟨y411, hy411⟩ : ∃ y_ : List (S36), y_ = (y407.take (1 : Int).toNat) := ⟨_, rfl⟩
       replace H : (flagstonelaw41_SequenceLevel.j1 kj9 6 y411 0 (wrap64 (1 + (Int.tmod (wrap64 (a3)) 3))) (wrap64 (1 + (Int.tmod (wrap64 (a4)) 3))) 0 (wrap64 (400 + (wrap64 ((wrap64 (a5)) * 2)))) a6) = some r := by first | (rw [hy411]; with_reducible exact H) | (have H2_ := (Option.bind_some _ _).symm.trans H; rw [hy411]; with_reducible exact H2_) | (have H2_ := (Option.bind_some _ _).symm.trans H; with_reducible exact H2_) | with_reducible exact H | (rw [hy411]; exact H) | exact H
       have Ny411 := Aside0.mk hy411
       clear hy411
       have H' := Aside0.mk H
       clear H
       have hnb27 := NB410_404.out
       have hnc27 := NB404_410.out
       have hnb28 := NB410_405.out
       have hnc28 := NB405_410.out
       have hcz29_0 : wc.cell? ⟨gb410, 0, none⟩ = some (.slice Ao19 y407.length co19) := (blk_cell BK410.out 0).trans rfl
       have hcz29_1 : wc.cell? ⟨gb410, 1, none⟩ = some (.int .i64 0) := (blk_cell BK410.out 1).trans rfl
       have hcz29_2 : wc.cell? ⟨gb410, 2, none⟩ = some (.int .i64 (wrap64 (1 + (Int.tmod (wrap64 (a3)) 3)))) := (blk_cell BK410.out 2).trans rfl
       have hcz29_3 : wc.cell? ⟨gb410, 3, none⟩ = some (.int .i64 (wrap64 (1 + (Int.tmod (wrap64 (a4)) 3)))) := (blk_cell BK410.out 3).trans rfl
       have hcz29_4 : wc.cell? ⟨gb410, 4, none⟩ = some (.int .i64 0) := (blk_cell BK410.out 4).trans rfl
       have hcz29_5 : wc.cell? ⟨gb410, 5, none⟩ = some (.int .i64 (wrap64 (400 + (wrap64 ((wrap64 (a5)) * 2))))) := (blk_cell BK410.out 5).trans rfl
       have hcz29_6 : wc.cell? ⟨gb410, 6, none⟩ = some (.bool a6) := (blk_cell BK410.out 6).trans rfl
       have hfz29_0 := blk_frozen BK410.out 0
       have hfz29_1 := blk_frozen BK410.out 1
       have hfz29_2 := blk_frozen BK410.out 2
       have hfz29_3 := blk_frozen BK410.out 3
       have hfz29_4 := blk_frozen BK410.out 4
       have hfz29_5 := blk_frozen BK410.out 5
       have hfz29_6 := blk_frozen BK410.out 6
       have q30 : (1 : Int) ≤ ((y407.length : Int) : Int) := of_decide_eq_true (by first | (with_reducible assumption) | assumption)
       obtain ⟨i030, hi030, _, hsz30, _⟩ := info_parts info36
       have hcut30 := cut_to (P := Try.prog) 37 36 .i64 Try.underlying37 hi030 Ao19 y407.length co19 1 (by omega) q30 (Kd.R_reads' HO_411000.out).2.1
       have hr30 := Kd.R_take (m := (1 : Int).toNat) HO_411000.out (by omega)
       have hy30 : y411.length = (1 : Int).toNat := (by rw [Ny411.out, List.length_take]; omega)
       rw [← Ny411.out] at hr30
       rw [← hy30] at hr30 hcut30
       clear hy30 hi030 hsz30 HO_411000
       have HO413 := Aside0.mk hr30
       clear hr30
       replace q30 := eq_true q30
       go_wp2
       go_meet
       case rel => exact ⟨_, (6), (y411), (.slice Ao19 y411.length co19), (by first | rfl | (simp; done) | (simp [*]; done) | exact congrArg (Value.int _) (by unfold wrap64; omega)), H', ⟨by have := HJ9.out; first | omega | exact Nat.le_refl _⟩, ⟨by (with_reducible repeat (first | apply Kd.R_alloc | apply Kd.R_drewN | apply Kd.R_drew)); exact Kd.R_mono (Kd.R_far (p := ⟨gb410, 0, none⟩) (Kd.R_types HO413.out BK410.out (by decide)) (fun _ hk => hk.2) (.slice Ao19 y411.length co19)) (fun _ hk => ⟨hk.1.1, hk.1.2⟩)⟩, ⟨by (with_reducible repeat (first | refine blk_drewN ?_ _ | refine blk_drew ?_ | refine blk_alloc ?_ _)); refine blk_far ?_ NB404_410.out _; (with_reducible repeat (first | refine blk_drewN ?_ _ | refine blk_drew ?_ | refine blk_alloc ?_ _)); exact BK404.out⟩, ⟨by (with_reducible repeat (first | refine blk_drewN ?_ _ | refine blk_drew ?_ | refine blk_alloc ?_ _)); refine blk_far ?_ NB405_410.out _; (with_reducible repeat (first | refine blk_drewN ?_ _ | refine blk_drew ?_ | refine blk_alloc ?_ _)); exact BK405.out⟩, ⟨by (with_reducible repeat (first | refine blk_drewN ?_ _ | refine blk_drew ?_ | refine blk_alloc ?_ _)); refine blk_put (cs := #[.slice Ao19 y407.length co19, .int .i64 0, .int .i64 (wrap64 (1 + (Int.tmod (wrap64 (a3)) 3))), .int .i64 (wrap64 (1 + (Int.tmod (wrap64 (a4)) 3))), .int .i64 0, .int .i64 (wrap64 (400 + (wrap64 ((wrap64 (a5)) * 2)))), .bool a6]) ?_ 0 _ rfl; (with_reducible repeat (first | refine blk_drewN ?_ _ | refine blk_drew ?_ | refine blk_alloc ?_ _)); exact BK410.out⟩, ⟨by repeat (first | (with_reducible first | exact HB.out | apply below_alloc | apply pw_below_drewN | apply below_drew1 | refine below_set ?_ GE404.out | refine below_set ?_ GE405.out | refine below_set ?_ GE410.out) | exact HB.out)⟩⟩
      ·rw [if_neg c26] at H
       exact absurd H (by simp)
     ·replace c25 := Bool.eq_false_iff.mpr c25
      subst c25
      have H1 : (flagstonelaw41_SequenceLevel.j1 kj9 x16_9 y407 0 (wrap64 (1 + (Int.tmod (wrap64 (a3)) 3))) (wrap64 (1 + (Int.tmod (wrap64 (a4)) 3))) 0 (wrap64 (400 + (wrap64 ((wrap64 (a5)) * 2)))) a6) = some r := by rw [if_neg (show ¬ (false = true) by decide)] at H; exact H
      clear H
      have H := H1
      clear H1
      have H' := Aside0.mk H
      clear H
      go_wp2
      go_meet
      case rel => exact ⟨_, (x16_9), (y407), (.slice Ao19 y407.length co19), (by first | rfl | (simp; done) | (simp [*]; done) | exact congrArg (Value.int _) (by unfold wrap64; omega)), H', ⟨by have := HJ9.out; first | omega | exact Nat.le_refl _⟩, ⟨by (with_reducible repeat (first | apply Kd.R_alloc | apply Kd.R_drewN | apply Kd.R_drew)); exact HO_411000.out⟩, ⟨by (with_reducible repeat (first | refine blk_drewN ?_ _ | refine blk_drew ?_ | refine blk_alloc ?_ _)); exact BK404.out⟩, ⟨by (with_reducible repeat (first | refine blk_drewN ?_ _ | refine blk_drew ?_ | refine blk_alloc ?_ _)); exact BK405.out⟩, ⟨by (with_reducible repeat (first | refine blk_drewN ?_ _ | refine blk_drew ?_ | refine blk_alloc ?_ _)); exact BK410.out⟩, ⟨by repeat (first | (with_reducible first | exact HB.out | apply below_alloc | apply pw_below_drewN | apply below_drew1 | refine below_set ?_ GE404.out | refine below_set ?_ GE405.out | refine below_set ?_ GE410.out) | exact HB.out)⟩⟩
    case rest =>
     clear HC24
     try clear c1
     try clear c2
     try clear p2
     try clear q3
     try clear c4
     try clear p6
     try clear c9
     try clear c10
     try clear c14
     try clear c21
     try clear c22
     try clear c25
     try clear c26
     try clear c26b0
     try clear c26b1
     try clear c27
     try clear c28
     try clear q30
     try clear hcz15_0
     try clear hcz15_1
     try clear hcz15_2
     try clear hcz15_3
     try clear hcz16_0
     try clear hcz16_1
     try clear hcz16_2
     try clear hcz16_3
     try clear hcz23_0
     try clear hcz23_1
     try clear hcz23_2
     try clear hcz23_3
     try clear hcz23_4
     try clear hcz23_5
     try clear hcz23_6
     try clear hcz29_0
     try clear hcz29_1
     try clear hcz29_2
     try clear hcz29_3
     try clear hcz29_4
     try clear hcz29_5
     try clear hcz29_6
     try clear hfz15_0
     try clear hfz15_1
     try clear hfz15_2
     try clear hfz15_3
     try clear hfz16_0
     try clear hfz16_1
     try clear hfz16_2
     try clear hfz16_3
     try clear hfz23_0
     try clear hfz23_1
     try clear hfz23_2
     try clear hfz23_3
     try clear hfz23_4
     try clear hfz23_5
     try clear hfz23_6
     try clear hfz29_0
     try clear hfz29_1
     try clear hfz29_2
     try clear hfz29_3
     try clear hfz29_4
     try clear hfz29_5
     try clear hfz29_6
     try clear p2
     try clear p6
     try clear q30
     obtain ⟨kq, x16_23, x411000_23, u411000, rfl, HA, HJ23, HO_411000, BK404, BK405, BK410, HB⟩ := hcut
     cases kq with
     | zero => exact absurd HA.out (by simp [flagstonelaw41_SequenceLevel.j1])
     | succ kj23 =>
      have H := HA.out
      clear HA
      simp only [flagstonelaw41_SequenceLevel.j1] at H
      have H' := Aside0.mk H
      clear H
      go_wp2
      go_loopg [17, 18] kj23 (fun kq v17 v18 w' => ∃ (x17_3 : Int) (x18_3 : Int) (x411001_3 : Int), v17 = .int .i64 x17_3 ∧ v18 = .int .i64 x18_3 ∧ Aside0 (flagstonelaw41_SequenceLevel.l0 kq x16_23 x17_3 x18_3 x411000_23 x411001_3 (wrap64 (1 + (Int.tmod (wrap64 (a3)) 3))) (wrap64 (1 + (Int.tmod (wrap64 (a4)) 3))) 0 (wrap64 (400 + (wrap64 ((wrap64 (a5)) * 2)))) a6 = some r) ∧ Aside0 (kq ≤ kj23) ∧ Aside0 (Kd.R k36 36 w' w.heap.size (fun k_ => k_ ≠ gb404 ∧ k_ ≠ gb405) u411000 x411000_23) ∧ Aside0 (w'.heap[gb404]? = some (.cells #[.int .u8 a0_0, .int .u8 a0_1, .int .u8 a0_2, .int .u8 a0_3] 36 (0, 0))) ∧ Aside0 (w'.heap[gb405]? = some (.cells #[.int .u8 a1_0, .int .u8 a1_1, .int .u8 a1_2, .int .u8 a1_3] 36 (0, 0))) ∧ Aside0 (w'.heap[gb410]? = some (.cells #[u411000, .int .i64 x411001_3, .int .i64 (wrap64 (1 + (Int.tmod (wrap64 (a3)) 3))), .int .i64 (wrap64 (1 + (Int.tmod (wrap64 (a4)) 3))), .int .i64 0, .int .i64 (wrap64 (400 + (wrap64 ((wrap64 (a5)) * 2)))), .bool a6] 39 (0, 0))) ∧ Aside0 (Below w.heap.size w w'))
      case atStart => exact ⟨(0), (0), (0), (by first | rfl | (simp; done) | (simp [*]; done) | exact congrArg (Value.int _) (by unfold wrap64; omega)), (by first | rfl | (simp; done) | (simp [*]; done) | exact congrArg (Value.int _) (by unfold wrap64; omega)), H', ⟨Nat.le_refl _⟩, ⟨by (with_reducible repeat (first | apply Kd.R_alloc | apply Kd.R_drewN | apply Kd.R_drew)); exact HO_411000.out⟩, ⟨by (with_reducible repeat (first | refine blk_drewN ?_ _ | refine blk_drew ?_ | refine blk_alloc ?_ _)); exact BK404.out⟩, ⟨by (with_reducible repeat (first | refine blk_drewN ?_ _ | refine blk_drew ?_ | refine blk_alloc ?_ _)); exact BK405.out⟩, ⟨by (with_reducible repeat (first | refine blk_drewN ?_ _ | refine blk_drew ?_ | refine blk_alloc ?_ _)); exact BK410.out⟩, ⟨by repeat (first | (with_reducible first | exact HB.out | apply below_alloc | apply pw_below_drewN | apply below_drew1 | refine below_set ?_ GE404.out | refine below_set ?_ GE405.out | refine below_set ?_ GE410.out) | exact HB.out)⟩⟩
      case round =>
       clear H'
       try clear c1
       try clear c2
       try clear p2
       try clear q3
       try clear c4
       try clear p6
       try clear c9
       try clear c10
       try clear c14
       try clear c21
       try clear c22
       try clear c25
       try clear c26
       try clear c26b0
       try clear c26b1
       try clear c27
       try clear c28
       try clear q30
       try clear hcz15_0
       try clear hcz15_1
       try clear hcz15_2
       try clear hcz15_3
       try clear hcz16_0
       try clear hcz16_1
       try clear hcz16_2
       try clear hcz16_3
       try clear hcz23_0
       try clear hcz23_1
       try clear hcz23_2
       try clear hcz23_3
       try clear hcz23_4
       try clear hcz23_5
       try clear hcz23_6
       try clear hcz29_0
       try clear hcz29_1
       try clear hcz29_2
       try clear hcz29_3
       try clear hcz29_4
       try clear hcz29_5
       try clear hcz29_6
       try clear hfz15_0
       try clear hfz15_1
       try clear hfz15_2
       try clear hfz15_3
       try clear hfz16_0
       try clear hfz16_1
       try clear hfz16_2
       try clear hfz16_3
       try clear hfz23_0
       try clear hfz23_1
       try clear hfz23_2
       try clear hfz23_3
       try clear hfz23_4
       try clear hfz23_5
       try clear hfz23_6
       try clear hfz29_0
       try clear hfz29_1
       try clear hfz29_2
       try clear hfz29_3
       try clear hfz29_4
       try clear hfz29_5
       try clear hfz29_6
       try clear p2
       try clear p6
       try clear q3
       try clear q30
       obtain ⟨x17_3, x18_3, x411001_3, rfl, rfl, HA, HK3, HO_411000, BK404, BK405, BK410, HB⟩ := hrel
       cases gk with
       | zero => exact absurd HA.out (by simp [flagstonelaw41_SequenceLevel.l0])
       | succ k3 =>
        have H := HA.out
        clear HA
        simp only [flagstonelaw41_SequenceLevel.l0] at H
        by_cases c31 : x18_3 < (x411000_23.length : Int)
        ·rw [if_pos c31] at H
         have c31b0 : decide (x18_3 < (x411000_23.length : Int)) = true := decide_eq_true c31
         clear c31
         by_cases c32 : 0 ≤ x18_3
         ·rw [if_pos c32] at H
          have c32b0 : decide (0 ≤ x18_3) = true := decide_eq_true c32
          clear c32
          have H' := Aside0.mk H
          clear H
          have hnb33 := NB410_404.out
          have hnc33 := NB404_410.out
          have hnb34 := NB410_405.out
          have hnc34 := NB405_410.out
          have hcz35_0 : wr.cell? ⟨gb410, 0, none⟩ = some (u411000) := (blk_cell BK410.out 0).trans rfl
          have hcz35_1 : wr.cell? ⟨gb410, 1, none⟩ = some (.int .i64 x411001_3) := (blk_cell BK410.out 1).trans rfl
          have hcz35_2 : wr.cell? ⟨gb410, 2, none⟩ = some (.int .i64 (wrap64 (1 + (Int.tmod (wrap64 (a3)) 3)))) := (blk_cell BK410.out 2).trans rfl
          have hcz35_3 : wr.cell? ⟨gb410, 3, none⟩ = some (.int .i64 (wrap64 (1 + (Int.tmod (wrap64 (a4)) 3)))) := (blk_cell BK410.out 3).trans rfl
          have hcz35_4 : wr.cell? ⟨gb410, 4, none⟩ = some (.int .i64 0) := (blk_cell BK410.out 4).trans rfl
          have hcz35_5 : wr.cell? ⟨gb410, 5, none⟩ = some (.int .i64 (wrap64 (400 + (wrap64 ((wrap64 (a5)) * 2))))) := (blk_cell BK410.out 5).trans rfl
          have hcz35_6 : wr.cell? ⟨gb410, 6, none⟩ = some (.bool a6) := (blk_cell BK410.out 6).trans rfl
          have hfz35_0 := blk_frozen BK410.out 0
          have hfz35_1 := blk_frozen BK410.out 1
          have hfz35_2 := blk_frozen BK410.out 2
          have hfz35_3 := blk_frozen BK410.out 3
          have hfz35_4 := blk_frozen BK410.out 4
          have hfz35_5 := blk_frozen BK410.out 5
          have hfz35_6 := blk_frozen BK410.out 6
          obtain ⟨Ao36, co36, eo36⟩ := Kd.R_slice HO_411000.out
          subst eo36
          have p414 : 0 ≤ (x18_3 : Int) := of_decide_eq_true (by first | (with_reducible assumption) | assumption)
          have q414 : x18_3 < (x411000_23.length : Int) := of_decide_eq_true (by first | (with_reducible assumption) | assumption)
          obtain ⟨ad414, e414, hx414_0, hx414_1, hx414_2, hx414_3⟩ := at_T36 (Kd.R_reads' HO_411000.out).2.2 x18_3 p414 q414
          cases e414
          replace p414 := eq_true p414
          replace q414 := eq_true q414
          go_wp2_with (first | ((with_reducible refine gate_dst (N := 19) rfl ?_); refine box_event ?hg (N := 19) ?hd (cs := #[.int .u8 0, .int .u8 0, .int .u8 0, .int .u8 0]) (t := 36) ?hr ?_; (case hd => rfl); (case hg => rfl); (case hr => first | (go_simp; done) | (go_simp; rfl)); intro gb415 hg w37 hbox hb; have n0_ := Aside0.mk (Kd.R_below (Kd.R_elderB (by (with_reducible repeat (first | apply Kd.R_alloc | apply Kd.R_drewN | apply Kd.R_drew)); exact HO_411000.out) gb415 (Nat.le_of_eq hg.symm)) hb); have n1_ := Aside0.mk (blk_below (g := gb404) (o := .cells #[.int .u8 a0_0, .int .u8 a0_1, .int .u8 a0_2, .int .u8 a0_3] 36 (0, 0)) (by (with_reducible repeat (first | refine blk_drewN ?_ _ | refine blk_drew ?_ | refine blk_alloc ?_ _)); exact BK404.out) hb); have n2_ := Aside0.mk (blk_below (g := gb405) (o := .cells #[.int .u8 a1_0, .int .u8 a1_1, .int .u8 a1_2, .int .u8 a1_3] 36 (0, 0)) (by (with_reducible repeat (first | refine blk_drewN ?_ _ | refine blk_drew ?_ | refine blk_alloc ?_ _)); exact BK405.out) hb); have n3_ := Aside0.mk (blk_below (g := gb410) (o := .cells #[.slice (some ad414) x411000_23.length co36, .int .i64 x411001_3, .int .i64 (wrap64 (1 + (Int.tmod (wrap64 (a3)) 3))), .int .i64 (wrap64 (1 + (Int.tmod (wrap64 (a4)) 3))), .int .i64 0, .int .i64 (wrap64 (400 + (wrap64 ((wrap64 (a5)) * 2)))), .bool a6] 39 (0, 0)) (by (with_reducible repeat (first | refine blk_drewN ?_ _ | refine blk_drew ?_ | refine blk_alloc ?_ _)); exact BK410.out) hb); have n4_ := Aside0.mk (below_step (by repeat (first | (with_reducible first | exact HB.out | apply below_alloc | apply pw_below_drewN | apply below_drew1 | refine below_set ?_ GE404.out | refine below_set ?_ GE405.out | refine below_set ?_ GE410.out) | exact HB.out)) hb); have n5_ := Aside0.mk (hbox); have n6_ := Aside0.mk ((by rw [hg]; exact (below_size (by repeat (first | (with_reducible first | exact HB.out | apply below_alloc | apply pw_below_drewN | apply below_drew1 | refine below_set ?_ GE404.out | refine below_set ?_ GE405.out | refine below_set ?_ GE410.out) | exact HB.out))) : w.heap.size ≤ gb415)); have n7_ := Aside0.mk ((by rw [hg]; exact (below_size (by repeat (first | (with_reducible first | exact HB.out | apply below_alloc | apply pw_below_drewN | apply below_drew1 | refine below_set ?_ GE404.out | refine below_set ?_ GE405.out | refine below_set ?_ GE410.out) | exact HB.out))) : w.heap.size ≤ gb415)); have n8_ := Aside0.mk ((by rw [hg]; exact Nat.ne_of_lt (blk_lt (g := gb404) (o := .cells #[.int .u8 a0_0, .int .u8 a0_1, .int .u8 a0_2, .int .u8 a0_3] 36 (0, 0)) (by (with_reducible repeat (first | refine blk_drewN ?_ _ | refine blk_drew ?_ | refine blk_alloc ?_ _)); exact BK404.out)) : gb404 ≠ gb415)); have n9_ := Aside0.mk ((by rw [hg]; exact Nat.ne_of_gt (blk_lt (g := gb404) (o := .cells #[.int .u8 a0_0, .int .u8 a0_1, .int .u8 a0_2, .int .u8 a0_3] 36 (0, 0)) (by (with_reducible repeat (first | refine blk_drewN ?_ _ | refine blk_drew ?_ | refine blk_alloc ?_ _)); exact BK404.out)) : gb415 ≠ gb404)); have n10_ := Aside0.mk ((by rw [hg]; exact Nat.ne_of_lt (blk_lt (g := gb405) (o := .cells #[.int .u8 a1_0, .int .u8 a1_1, .int .u8 a1_2, .int .u8 a1_3] 36 (0, 0)) (by (with_reducible repeat (first | refine blk_drewN ?_ _ | refine blk_drew ?_ | refine blk_alloc ?_ _)); exact BK405.out)) : gb405 ≠ gb415)); have n11_ := Aside0.mk ((by rw [hg]; exact Nat.ne_of_gt (blk_lt (g := gb405) (o := .cells #[.int .u8 a1_0, .int .u8 a1_1, .int .u8 a1_2, .int .u8 a1_3] 36 (0, 0)) (by (with_reducible repeat (first | refine blk_drewN ?_ _ | refine blk_drew ?_ | refine blk_alloc ?_ _)); exact BK405.out)) : gb415 ≠ gb405)); have n12_ := Aside0.mk ((by rw [hg]; exact Nat.ne_of_lt (blk_lt (g := gb410) (o := .cells #[.slice (some ad414) x411000_23.length co36, .int .i64 x411001_3, .int .i64 (wrap64 (1 + (Int.tmod (wrap64 (a3)) 3))), .int .i64 (wrap64 (1 + (Int.tmod (wrap64 (a4)) 3))), .int .i64 0, .int .i64 (wrap64 (400 + (wrap64 ((wrap64 (a5)) * 2)))), .bool a6] 39 (0, 0)) (by (with_reducible repeat (first | refine blk_drewN ?_ _ | refine blk_drew ?_ | refine blk_alloc ?_ _)); exact BK410.out)) : gb410 ≠ gb415)); have n13_ := Aside0.mk ((by rw [hg]; exact Nat.ne_of_gt (blk_lt (g := gb410) (o := .cells #[.slice (some ad414) x411000_23.length co36, .int .i64 x411001_3, .int .i64 (wrap64 (1 + (Int.tmod (wrap64 (a3)) 3))), .int .i64 (wrap64 (1 + (Int.tmod (wrap64 (a4)) 3))), .int .i64 0, .int .i64 (wrap64 (400 + (wrap64 ((wrap64 (a5)) * 2)))), .bool a6] 39 (0, 0)) (by (with_reducible repeat (first | refine blk_drewN ?_ _ | refine blk_drew ?_ | refine blk_alloc ?_ _)); exact BK410.out)) : gb415 ≠ gb410)); clear HO_411000; clear BK404; clear BK405; clear BK410; clear HB; have HO_411000 := n0_; have BK404 := n1_; have BK405 := n2_; have BK410 := n3_; have HB := n4_; have BK415 := n5_; have GW415 := n6_; have GE415 := n7_; have NB404_415 := n8_; have NB415_404 := n9_; have NB405_415 := n10_; have NB415_405 := n11_; have NB410_415 := n12_; have NB415_410 := n13_; clear n0_ n1_ n2_ n3_ n4_ n5_ n6_ n7_ n8_ n9_ n10_ n11_ n12_ n13_; clear hb hbox hg; have hnb38 := NB415_404.out; have hnc38 := NB404_415.out; have hnb39 := NB415_405.out; have hnc39 := NB405_415.out; have hnb40 := NB415_410.out; have hnc40 := NB410_415.out; have hcz41_0 : w37.cell? ⟨gb415, 0, none⟩ = some (.int .u8 0) := (blk_cell BK415.out 0).trans rfl; have hcz41_1 : w37.cell? ⟨gb415, 1, none⟩ = some (.int .u8 0) := (blk_cell BK415.out 1).trans rfl; have hcz41_2 : w37.cell? ⟨gb415, 2, none⟩ = some (.int .u8 0) := (blk_cell BK415.out 2).trans rfl; have hcz41_3 : w37.cell? ⟨gb415, 3, none⟩ = some (.int .u8 0) := (blk_cell BK415.out 3).trans rfl; have hfz41_0 := blk_frozen BK415.out 0; have hfz41_1 := blk_frozen BK415.out 1; have hfz41_2 := blk_frozen BK415.out 2; have hfz41_3 := blk_frozen BK415.out 3; have hcz42_0 : w37.cell? ⟨gb410, 0, none⟩ = some (.slice (some ad414) x411000_23.length co36) := (blk_cell BK410.out 0).trans rfl; have hcz42_1 : w37.cell? ⟨gb410, 1, none⟩ = some (.int .i64 x411001_3) := (blk_cell BK410.out 1).trans rfl; have hcz42_2 : w37.cell? ⟨gb410, 2, none⟩ = some (.int .i64 (wrap64 (1 + (Int.tmod (wrap64 (a3)) 3)))) := (blk_cell BK410.out 2).trans rfl; have hcz42_3 : w37.cell? ⟨gb410, 3, none⟩ = some (.int .i64 (wrap64 (1 + (Int.tmod (wrap64 (a4)) 3)))) := (blk_cell BK410.out 3).trans rfl; have hcz42_4 : w37.cell? ⟨gb410, 4, none⟩ = some (.int .i64 0) := (blk_cell BK410.out 4).trans rfl; have hcz42_5 : w37.cell? ⟨gb410, 5, none⟩ = some (.int .i64 (wrap64 (400 + (wrap64 ((wrap64 (a5)) * 2))))) := (blk_cell BK410.out 5).trans rfl; have hcz42_6 : w37.cell? ⟨gb410, 6, none⟩ = some (.bool a6) := (blk_cell BK410.out 6).trans rfl; have hfz42_0 := blk_frozen BK410.out 0; have hfz42_1 := blk_frozen BK410.out 1; have hfz42_2 := blk_frozen BK410.out 2; have hfz42_3 := blk_frozen BK410.out 3; have hfz42_4 := blk_frozen BK410.out 4; have hfz42_5 := blk_frozen BK410.out 5; have hfz42_6 := blk_frozen BK410.out 6))
          go_roundg k3
          case measure => have := HJ9.out; have := HJ23.out; have := HK3.out; omega
          case rel => exact ⟨(wrap64 (x17_3 + (wrap64 ((wrap64 (1 + (Int.tmod (wrap64 ((rd_T36 x411000_23 x18_3).f0)) 3))) * (wrap64 ((Int.tmod (wrap64 ((rd_T36 x411000_23 x18_3).f3)) 21) - (Int.tmod (wrap64 ((rd_T36 x411000_23 x18_3).f2)) 21))))))), (wrap64 (x18_3 + 1)), (wrap64 (x411001_3 + (wrap64 (1 + (Int.tmod (wrap64 ((rd_T36 x411000_23 x18_3).f0)) 3))))), (by first | rfl | (simp; done) | (simp [*]; done) | exact congrArg (Value.int _) (by unfold wrap64; omega)), (by first | rfl | (simp; done) | (simp [*]; done) | exact congrArg (Value.int _) (by unfold wrap64; omega)), H', ⟨by have := HJ9.out; have := HJ23.out; have := HK3.out; omega⟩, ⟨by (with_reducible repeat (first | apply Kd.R_alloc | apply Kd.R_drewN | apply Kd.R_drew)); exact Kd.R_mono (Kd.R_far (p := ⟨gb410, 1, none⟩) (Kd.R_far (p := ⟨gb415, 3, none⟩) (Kd.R_far (p := ⟨gb415, 2, none⟩) (Kd.R_far (p := ⟨gb415, 1, none⟩) (Kd.R_far (p := ⟨gb415, 0, none⟩) (Kd.R_types (Kd.R_mono HO_411000.out (fun k_ hk => (⟨hk, hk.2⟩ : _ ∧ k_ ≠ gb415))) BK410.out (by decide)) (fun _ hk => hk.1.2) (.int .u8 ((rd_T36 x411000_23 x18_3).f0))) (fun _ hk => hk.1.2) (.int .u8 ((rd_T36 x411000_23 x18_3).f1))) (fun _ hk => hk.1.2) (.int .u8 ((rd_T36 x411000_23 x18_3).f2))) (fun _ hk => hk.1.2) (.int .u8 ((rd_T36 x411000_23 x18_3).f3))) (fun _ hk => hk.2) (.int .i64 (wrap64 (x411001_3 + (wrap64 (1 + (Int.tmod (wrap64 ((rd_T36 x411000_23 x18_3).f0)) 3))))))) (fun _ hk => ⟨hk.1.1.1.1, hk.1.1.1.2⟩)⟩, ⟨by (with_reducible repeat (first | refine blk_drewN ?_ _ | refine blk_drew ?_ | refine blk_alloc ?_ _)); refine blk_far ?_ NB404_410.out _; (with_reducible repeat (first | refine blk_drewN ?_ _ | refine blk_drew ?_ | refine blk_alloc ?_ _)); refine blk_far ?_ NB404_415.out _; (with_reducible repeat (first | refine blk_drewN ?_ _ | refine blk_drew ?_ | refine blk_alloc ?_ _)); refine blk_far ?_ NB404_415.out _; (with_reducible repeat (first | refine blk_drewN ?_ _ | refine blk_drew ?_ | refine blk_alloc ?_ _)); refine blk_far ?_ NB404_415.out _; (with_reducible repeat (first | refine blk_drewN ?_ _ | refine blk_drew ?_ | refine blk_alloc ?_ _)); refine blk_far ?_ NB404_415.out _; (with_reducible repeat (first | refine blk_drewN ?_ _ | refine blk_drew ?_ | refine blk_alloc ?_ _)); exact BK404.out⟩, ⟨by (with_reducible repeat (first | refine blk_drewN ?_ _ | refine blk_drew ?_ | refine blk_alloc ?_ _)); refine blk_far ?_ NB405_410.out _; (with_reducible repeat (first | refine blk_drewN ?_ _ | refine blk_drew ?_ | refine blk_alloc ?_ _)); refine blk_far ?_ NB405_415.out _; (with_reducible repeat (first | refine blk_drewN ?_ _ | refine blk_drew ?_ | refine blk_alloc ?_ _)); refine blk_far ?_ NB405_415.out _; (with_reducible repeat (first | refine blk_drewN ?_ _ | refine blk_drew ?_ | refine blk_alloc ?_ _)); refine blk_far ?_ NB405_415.out _; (with_reducible repeat (first | refine blk_drewN ?_ _ | refine blk_drew ?_ | refine blk_alloc ?_ _)); refine blk_far ?_ NB405_415.out _; (with_reducible repeat (first | refine blk_drewN ?_ _ | refine blk_drew ?_ | refine blk_alloc ?_ _)); exact BK405.out⟩, ⟨by (with_reducible repeat (first | refine blk_drewN ?_ _ | refine blk_drew ?_ | refine blk_alloc ?_ _)); refine blk_put (cs := #[.slice (some ad414) x411000_23.length co36, .int .i64 x411001_3, .int .i64 (wrap64 (1 + (Int.tmod (wrap64 (a3)) 3))), .int .i64 (wrap64 (1 + (Int.tmod (wrap64 (a4)) 3))), .int .i64 0, .int .i64 (wrap64 (400 + (wrap64 ((wrap64 (a5)) * 2)))), .bool a6]) ?_ 1 _ rfl; (with_reducible repeat (first | refine blk_drewN ?_ _ | refine blk_drew ?_ | refine blk_alloc ?_ _)); refine blk_far ?_ NB410_415.out _; (with_reducible repeat (first | refine blk_drewN ?_ _ | refine blk_drew ?_ | refine blk_alloc ?_ _)); refine blk_far ?_ NB410_415.out _; (with_reducible repeat (first | refine blk_drewN ?_ _ | refine blk_drew ?_ | refine blk_alloc ?_ _)); refine blk_far ?_ NB410_415.out _; (with_reducible repeat (first | refine blk_drewN ?_ _ | refine blk_drew ?_ | refine blk_alloc ?_ _)); refine blk_far ?_ NB410_415.out _; (with_reducible repeat (first | refine blk_drewN ?_ _ | refine blk_drew ?_ | refine blk_alloc ?_ _)); exact BK410.out⟩, ⟨by repeat (first | (with_reducible first | exact HB.out | apply below_alloc | apply pw_below_drewN | apply below_drew1 | refine below_set ?_ GE404.out | refine below_set ?_ GE405.out | refine below_set ?_ GE410.out | refine below_set ?_ GE415.out) | exact HB.out)⟩⟩
         ·rw [if_neg c32] at H
          exact absurd H (by simp)
        ·rw [if_neg c31] at H
         have c31b0 : decide (x18_3 < (x411000_23.length : Int)) = false := decide_eq_false c31
         clear c31
         by_cases c43 : x411001_3 = 0
         ·rw [if_pos c43] at H
          exact absurd H (by simp)
         ·rw [if_neg c43] at H
          have c43b0 : (x411001_3 == 0) = false := beq_eq_false_iff_ne.mpr c43
          have c43b1 : (x411001_3 != 0) = true := bne_iff_ne.mpr c43
          by_cases c44 : (Int.tmod (wrap64 (x17_3 * 50)) x411001_3) = 0
          ·rw [if_pos c44] at H
           have c44b0 : ((Int.tmod (wrap64 (x17_3 * 50)) x411001_3) == 0) = true := beq_iff_eq.mpr c44
           have c44b1 : ((Int.tmod (wrap64 (x17_3 * 50)) x411001_3) != 0) = false := bne_eq_false_iff_eq.mpr c44
           clear c44
           have H' := Aside0.mk H
           clear H
           have hnb45 := NB410_404.out
           have hnc45 := NB404_410.out
           have hnb46 := NB410_405.out
           have hnc46 := NB405_410.out
           have hcz47_0 : wr.cell? ⟨gb410, 0, none⟩ = some (u411000) := (blk_cell BK410.out 0).trans rfl
           have hcz47_1 : wr.cell? ⟨gb410, 1, none⟩ = some (.int .i64 x411001_3) := (blk_cell BK410.out 1).trans rfl
           have hcz47_2 : wr.cell? ⟨gb410, 2, none⟩ = some (.int .i64 (wrap64 (1 + (Int.tmod (wrap64 (a3)) 3)))) := (blk_cell BK410.out 2).trans rfl
           have hcz47_3 : wr.cell? ⟨gb410, 3, none⟩ = some (.int .i64 (wrap64 (1 + (Int.tmod (wrap64 (a4)) 3)))) := (blk_cell BK410.out 3).trans rfl
           have hcz47_4 : wr.cell? ⟨gb410, 4, none⟩ = some (.int .i64 0) := (blk_cell BK410.out 4).trans rfl
           have hcz47_5 : wr.cell? ⟨gb410, 5, none⟩ = some (.int .i64 (wrap64 (400 + (wrap64 ((wrap64 (a5)) * 2))))) := (blk_cell BK410.out 5).trans rfl
           have hcz47_6 : wr.cell? ⟨gb410, 6, none⟩ = some (.bool a6) := (blk_cell BK410.out 6).trans rfl
           have hfz47_0 := blk_frozen BK410.out 0
           have hfz47_1 := blk_frozen BK410.out 1
           have hfz47_2 := blk_frozen BK410.out 2
           have hfz47_3 := blk_frozen BK410.out 3
           have hfz47_4 := blk_frozen BK410.out 4
           have hfz47_5 := blk_frozen BK410.out 5
           have hfz47_6 := blk_frozen BK410.out 6
           obtain ⟨Ao48, co48, eo48⟩ := Kd.R_slice HO_411000.out
           subst eo48
           go_wp2
           go_loopg [20, 21] k3 (fun kq v20 v21 w' => ∃ (x20_4 : Int) (x21_4 : Int), v20 = .int .i64 x20_4 ∧ v21 = .int .i64 x21_4 ∧ Aside0 (flagstonelaw41_SequenceLevel.l1 kq x16_23 x20_4 x21_4 x411000_23 x411001_3 (wrap64 (1 + (Int.tmod (wrap64 (a3)) 3))) (wrap64 (1 + (Int.tmod (wrap64 (a4)) 3))) (wrap64 (Int.tdiv (wrap64 (x17_3 * 50)) x411001_3)) (wrap64 (400 + (wrap64 ((wrap64 (a5)) * 2)))) a6 = some r) ∧ Aside0 (kq ≤ k3) ∧ Aside0 (Kd.R k36 36 w' w.heap.size (fun k_ => k_ ≠ gb404 ∧ k_ ≠ gb405) (.slice Ao48 x411000_23.length co48) x411000_23) ∧ Aside0 (w'.heap[gb404]? = some (.cells #[.int .u8 a0_0, .int .u8 a0_1, .int .u8 a0_2, .int .u8 a0_3] 36 (0, 0))) ∧ Aside0 (w'.heap[gb405]? = some (.cells #[.int .u8 a1_0, .int .u8 a1_1, .int .u8 a1_2, .int .u8 a1_3] 36 (0, 0))) ∧ Aside0 (w'.heap[gb410]? = some (.cells #[(.slice Ao48 x411000_23.length co48), .int .i64 x411001_3, .int .i64 (wrap64 (1 + (Int.tmod (wrap64 (a3)) 3))), .int .i64 (wrap64 (1 + (Int.tmod (wrap64 (a4)) 3))), .int .i64 (wrap64 (Int.tdiv (wrap64 (x17_3 * 50)) x411001_3)), .int .i64 (wrap64 (400 + (wrap64 ((wrap64 (a5)) * 2)))), .bool a6] 39 (0, 0))) ∧ Aside0 (Below w.heap.size w w'))
           case atStart => exact ⟨(1), (0), (by first | rfl | (simp; done) | (simp [*]; done) | exact congrArg (Value.int _) (by unfold wrap64; omega)), (by first | rfl | (simp; done) | (simp [*]; done) | exact congrArg (Value.int _) (by unfold wrap64; omega)), H', ⟨Nat.le_refl _⟩, ⟨by (with_reducible repeat (first | apply Kd.R_alloc | apply Kd.R_drewN | apply Kd.R_drew)); exact Kd.R_mono (Kd.R_far (p := ⟨gb410, 4, none⟩) (Kd.R_types HO_411000.out BK410.out (by decide)) (fun _ hk => hk.2) (.int .i64 (wrap64 (Int.tdiv (wrap64 (x17_3 * 50)) x411001_3)))) (fun _ hk => ⟨hk.1.1, hk.1.2⟩)⟩, ⟨by (with_reducible repeat (first | refine blk_drewN ?_ _ | refine blk_drew ?_ | refine blk_alloc ?_ _)); refine blk_far ?_ NB404_410.out _; (with_reducible repeat (first | refine blk_drewN ?_ _ | refine blk_drew ?_ | refine blk_alloc ?_ _)); exact BK404.out⟩, ⟨by (with_reducible repeat (first | refine blk_drewN ?_ _ | refine blk_drew ?_ | refine blk_alloc ?_ _)); refine blk_far ?_ NB405_410.out _; (with_reducible repeat (first | refine blk_drewN ?_ _ | refine blk_drew ?_ | refine blk_alloc ?_ _)); exact BK405.out⟩, ⟨by (with_reducible repeat (first | refine blk_drewN ?_ _ | refine blk_drew ?_ | refine blk_alloc ?_ _)); refine blk_put (cs := #[.slice Ao48 x411000_23.length co48, .int .i64 x411001_3, .int .i64 (wrap64 (1 + (Int.tmod (wrap64 (a3)) 3))), .int .i64 (wrap64 (1 + (Int.tmod (wrap64 (a4)) 3))), .int .i64 0, .int .i64 (wrap64 (400 + (wrap64 ((wrap64 (a5)) * 2)))), .bool a6]) ?_ 4 _ rfl; (with_reducible repeat (first | refine blk_drewN ?_ _ | refine blk_drew ?_ | refine blk_alloc ?_ _)); exact BK410.out⟩, ⟨by repeat (first | (with_reducible first | exact HB.out | apply below_alloc | apply pw_below_drewN | apply below_drew1 | refine below_set ?_ GE404.out | refine below_set ?_ GE405.out | refine below_set ?_ GE410.out) | exact HB.out)⟩⟩
           case round =>
            clear H'
            try clear c1
            try clear c2
            try clear p2
            try clear c3
            try clear q3
            try clear c4
            try clear p4
            try clear q4
            try clear hx4
            try clear p6
            try clear c9
            try clear c10
            try clear c14
            try clear c21
            try clear c22
            try clear c25
            try clear c26
            try clear c26b0
            try clear c26b1
            try clear c27
            try clear c28
            try clear q30
            try clear c31
            try clear c31b0
            try clear c32
            try clear c32b0
            try clear c33
            try clear c34
            try clear c38
            try clear c39
            try clear c40
            try clear p41
            try clear q41
            try clear hx41
            try clear c43
            try clear c43b0
            try clear c43b1
            try clear c44
            try clear c44b0
            try clear c44b1
            try clear c45
            try clear c46
            try clear hcz15_0
            try clear hcz15_1
            try clear hcz15_2
            try clear hcz15_3
            try clear hcz16_0
            try clear hcz16_1
            try clear hcz16_2
            try clear hcz16_3
            try clear hcz23_0
            try clear hcz23_1
            try clear hcz23_2
            try clear hcz23_3
            try clear hcz23_4
            try clear hcz23_5
            try clear hcz23_6
            try clear hcz29_0
            try clear hcz29_1
            try clear hcz29_2
            try clear hcz29_3
            try clear hcz29_4
            try clear hcz29_5
            try clear hcz29_6
            try clear hcz35_0
            try clear hcz35_1
            try clear hcz35_2
            try clear hcz35_3
            try clear hcz35_4
            try clear hcz35_5
            try clear hcz35_6
            try clear hcz41_0
            try clear hcz41_1
            try clear hcz41_2
            try clear hcz41_3
            try clear hcz42_0
            try clear hcz42_1
            try clear hcz42_2
            try clear hcz42_3
            try clear hcz42_4
            try clear hcz42_5
            try clear hcz42_6
            try clear hcz47_0
            try clear hcz47_1
            try clear hcz47_2
            try clear hcz47_3
            try clear hcz47_4
            try clear hcz47_5
            try clear hcz47_6
            try clear hfz15_0
            try clear hfz15_1
            try clear hfz15_2
            try clear hfz15_3
            try clear hfz16_0
            try clear hfz16_1
            try clear hfz16_2
            try clear hfz16_3
            try clear hfz23_0
            try clear hfz23_1
            try clear hfz23_2
            try clear hfz23_3
            try clear hfz23_4
            try clear hfz23_5
            try clear hfz23_6
            try clear hfz29_0
            try clear hfz29_1
            try clear hfz29_2
            try clear hfz29_3
            try clear hfz29_4
            try clear hfz29_5
            try clear hfz29_6
            try clear hfz35_0
            try clear hfz35_1
            try clear hfz35_2
            try clear hfz35_3
            try clear hfz35_4
            try clear hfz35_5
            try clear hfz35_6
            try clear hfz41_0
            try clear hfz41_1
            try clear hfz41_2
            try clear hfz41_3
            try clear hfz42_0
            try clear hfz42_1
            try clear hfz42_2
            try clear hfz42_3
            try clear hfz42_4
            try clear hfz42_5
            try clear hfz42_6
            try clear hfz47_0
            try clear hfz47_1
            try clear hfz47_2
            try clear hfz47_3
            try clear hfz47_4
            try clear hfz47_5
            try clear hfz47_6
            try clear hx414_0
            try clear hx414_1
            try clear hx414_2
            try clear hx414_3
            try clear p2
            try clear p414
            try clear p6
            try clear q3
            try clear q30
            try clear q414
            obtain ⟨x20_4, x21_4, rfl, rfl, HA, HK4, HO_411000, BK404, BK405, BK410, HB⟩ := hrel
            cases gk with
            | zero => exact absurd HA.out (by simp [flagstonelaw41_SequenceLevel.l1])
            | succ k4 =>
             have H := HA.out
             clear HA
             simp only [flagstonelaw41_SequenceLevel.l1] at H
             by_cases c49 : x21_4 < x16_23
             ·rw [if_pos c49] at H
              have c49b0 : decide (x21_4 < x16_23) = true := decide_eq_true c49
              clear c49
              have H' := Aside0.mk H
              clear H
              have hnb50 := NB410_404.out
              have hnc50 := NB404_410.out
              have hnb51 := NB410_405.out
              have hnc51 := NB405_410.out
              have hcz52_0 : wr.cell? ⟨gb410, 0, none⟩ = some (.slice Ao48 x411000_23.length co48) := (blk_cell BK410.out 0).trans rfl
              have hcz52_1 : wr.cell? ⟨gb410, 1, none⟩ = some (.int .i64 x411001_3) := (blk_cell BK410.out 1).trans rfl
              have hcz52_2 : wr.cell? ⟨gb410, 2, none⟩ = some (.int .i64 (wrap64 (1 + (Int.tmod (wrap64 (a3)) 3)))) := (blk_cell BK410.out 2).trans rfl
              have hcz52_3 : wr.cell? ⟨gb410, 3, none⟩ = some (.int .i64 (wrap64 (1 + (Int.tmod (wrap64 (a4)) 3)))) := (blk_cell BK410.out 3).trans rfl
              have hcz52_4 : wr.cell? ⟨gb410, 4, none⟩ = some (.int .i64 (wrap64 (Int.tdiv (wrap64 (x17_3 * 50)) x411001_3))) := (blk_cell BK410.out 4).trans rfl
              have hcz52_5 : wr.cell? ⟨gb410, 5, none⟩ = some (.int .i64 (wrap64 (400 + (wrap64 ((wrap64 (a5)) * 2))))) := (blk_cell BK410.out 5).trans rfl
              have hcz52_6 : wr.cell? ⟨gb410, 6, none⟩ = some (.bool a6) := (blk_cell BK410.out 6).trans rfl
              have hfz52_0 := blk_frozen BK410.out 0
              have hfz52_1 := blk_frozen BK410.out 1
              have hfz52_2 := blk_frozen BK410.out 2
              have hfz52_3 := blk_frozen BK410.out 3
              have hfz52_4 := blk_frozen BK410.out 4
              have hfz52_5 := blk_frozen BK410.out 5
              have hfz52_6 := blk_frozen BK410.out 6
              go_wp2
              go_roundg k4
              case measure => have := HJ9.out; have := HJ23.out; have := HK3.out; have := HK4.out; omega
              case rel => exact ⟨(wrap64 (x20_4 * (wrap64 (x411001_3 * (wrap64 ((wrap64 (1 + (Int.tmod (wrap64 (a3)) 3))) + (wrap64 (1 + (Int.tmod (wrap64 (a4)) 3))))))))), (wrap64 (x21_4 + 1)), (by first | rfl | (simp; done) | (simp [*]; done) | exact congrArg (Value.int _) (by unfold wrap64; omega)), (by first | rfl | (simp; done) | (simp [*]; done) | exact congrArg (Value.int _) (by unfold wrap64; omega)), H', ⟨by have := HJ9.out; have := HJ23.out; have := HK3.out; have := HK4.out; omega⟩, ⟨by (with_reducible repeat (first | apply Kd.R_alloc | apply Kd.R_drewN | apply Kd.R_drew)); exact HO_411000.out⟩, ⟨by (with_reducible repeat (first | refine blk_drewN ?_ _ | refine blk_drew ?_ | refine blk_alloc ?_ _)); exact BK404.out⟩, ⟨by (with_reducible repeat (first | refine blk_drewN ?_ _ | refine blk_drew ?_ | refine blk_alloc ?_ _)); exact BK405.out⟩, ⟨by (with_reducible repeat (first | refine blk_drewN ?_ _ | refine blk_drew ?_ | refine blk_alloc ?_ _)); exact BK410.out⟩, ⟨by repeat (first | (with_reducible first | exact HB.out | apply below_alloc | apply pw_below_drewN | apply below_drew1 | refine below_set ?_ GE404.out | refine below_set ?_ GE405.out | refine below_set ?_ GE410.out) | exact HB.out)⟩⟩
             ·rw [if_neg c49] at H
              have c49b0 : decide (x21_4 < x16_23) = false := decide_eq_false c49
              clear c49
              replace H := Option.bind_eq_some_iff.mp H
              obtain ⟨t416, A530, H⟩ := H
              replace H : (some (decide ((wrap64 (t416 * 1000)) ≤ (wrap64 ((wrap64 (400 + (wrap64 ((wrap64 (a5)) * 2)))) * x20_4))))) = some r := H
              have A53 := Aside0.mk A530
              clear A530
              obtain rfl := Option.some.inj H
              try go_wp2
              have n0_ := Aside0.mk (Kd.R_drew HO_411000.out)
              have n1_ := Aside0.mk (blk_drew BK404.out)
              have n2_ := Aside0.mk (blk_drew BK405.out)
              have n3_ := Aside0.mk (blk_drew BK410.out)
              have n4_ := Aside0.mk (below_drew1 HB.out)
              clear HO_411000
              clear BK404
              clear BK405
              clear BK410
              clear HB
              have HO_411000 := n0_
              have BK404 := n1_
              have BK405 := n2_
              have BK410 := n3_
              have HB := n4_
              clear n0_ n1_ n2_ n3_ n4_
              refine start_ (n := 10) (S := fun w' => w'.cell? ⟨gb410, 0, none⟩ = some (.slice Ao48 x411000_23.length co48) ∧ w'.cell? ⟨gb410, 1, none⟩ = some (.int .i64 x411001_3) ∧ w'.cell? ⟨gb410, 2, none⟩ = some (.int .i64 (wrap64 (1 + (Int.tmod (wrap64 (a3)) 3)))) ∧ w'.cell? ⟨gb410, 3, none⟩ = some (.int .i64 (wrap64 (1 + (Int.tmod (wrap64 (a4)) 3)))) ∧ w'.cell? ⟨gb410, 4, none⟩ = some (.int .i64 (wrap64 (Int.tdiv (wrap64 (x17_3 * 50)) x411001_3))) ∧ w'.cell? ⟨gb410, 5, none⟩ = some (.int .i64 (wrap64 (400 + (wrap64 ((wrap64 (a5)) * 2))))) ∧ w'.cell? ⟨gb410, 6, none⟩ = some (.bool a6)) (ds := []) #[false, false, false, false, false, false, false, false, false, false] (by kernel_rfl) rfl rfl ⟨(blk_cell BK410.out 0).trans rfl, (blk_cell BK410.out 1).trans rfl, (blk_cell BK410.out 2).trans rfl, (blk_cell BK410.out 3).trans rfl, (blk_cell BK410.out 4).trans rfl, (blk_cell BK410.out 5).trans rfl, (blk_cell BK410.out 6).trans rfl⟩ (fun hHeld => ?_); refine with_tabW flagstonelaw41_SequenceLevel.tab22 flagstonelaw41_SequenceLevel.bits22 (fun HT_ HW_ => ?_)
              generalize wr.drew = w54 at HO_411000 BK404 BK405 BK410 HB hHeld ⊢
              refine pure_ (i := 1) (N := some 112) (v := ?_) (a' := ?_) #[false, true, false, false, false, false, false, false, false, false] rfl rfl (any_of HT_.out (by kernel_rfl)) (fun _ _ _ h => h) (Or.inl ⟨by rfl, ?_⟩) ?_ ?_
              rotate_left
              ·intro w'
               go_simp
               with_reducible rfl
              rotate_left
              ·simp only [Act.put, List.setIfInBounds_toArray, List.set_cons_zero, List.set_cons_succ, i64_w, i32_w]
               rfl
              refine pure_ (i := 4) (N := some 115) (v := ?_) (a' := ?_) #[false, true, false, false, true, false, false, false, false, false] rfl rfl (any_of HT_.out (by kernel_rfl)) (fun _ _ _ h => h) (Or.inl ⟨by rfl, ?_⟩) ?_ ?_
              rotate_left
              ·intro w'
               go_simp
               with_reducible rfl
              rotate_left
              ·simp only [Act.put, List.setIfInBounds_toArray, List.set_cons_zero, List.set_cons_succ, i64_w, i32_w]
               rfl
              refine pure_ (i := 6) (N := some 117) (v := ?_) (a' := ?_) #[false, true, false, false, true, false, true, false, false, false] rfl rfl (any_of HT_.out (by kernel_rfl)) (fun _ _ _ h => h) (Or.inl ⟨by rfl, ?_⟩) ?_ ?_
              rotate_left
              ·intro w'
               go_simp
               with_reducible rfl
              rotate_left
              ·simp only [Act.put, List.setIfInBounds_toArray, List.set_cons_zero, List.set_cons_succ, i64_w, i32_w]
               rfl
              refine take_ (i := 0) (N := some 111) (v := ?_) (a' := ?_) #[true, true, false, false, true, false, true, false, false, false] rfl rfl (take_ofW HT_.out HW_.out (by kernel_rfl)) (fun _ _ _ h => h) (Or.inl ⟨by rfl, ?_⟩) hHeld ?_ ?_
              rotate_left
              ·rintro w' ⟨s0, s1, s2, s3, s4, s5, s6⟩
               go_simp
               with_reducible rfl
              rotate_left
              ·simp only [Act.put, List.setIfInBounds_toArray, List.set_cons_zero, List.set_cons_succ, i64_w, i32_w]
               rfl
              refine take_ (i := 5) (N := some 116) (v := ?_) (a' := ?_) #[true, true, false, false, true, true, true, false, false, false] rfl rfl (take_ofW HT_.out HW_.out (by kernel_rfl)) (fun _ _ _ h => h) (Or.inl ⟨by rfl, ?_⟩) hHeld ?_ ?_
              rotate_left
              ·rintro w' ⟨s0, s1, s2, s3, s4, s5, s6⟩
               go_simp
               with_reducible rfl
              rotate_left
              ·simp only [Act.put, List.setIfInBounds_toArray, List.set_cons_zero, List.set_cons_succ, i64_w, i32_w]
               rfl
              refine pure_ (i := 7) (N := some 118) (v := ?_) (a' := ?_) #[true, true, false, false, true, true, true, true, false, false] rfl rfl (any_of HT_.out (by kernel_rfl)) (fun _ _ _ h => h) (Or.inl ⟨by rfl, ?_⟩) ?_ ?_
              rotate_left
              ·intro w'
               go_simp
               with_reducible rfl
              rotate_left
              ·simp only [Act.put, List.setIfInBounds_toArray, List.set_cons_zero, List.set_cons_succ, i64_w, i32_w]
               rfl
              refine one_ (i := 2) (N := some 113) #[true, true, true, false, true, true, true, true, false, false] rfl rfl (one_of HT_.out (by kernel_rfl)) (by decide) (fun K hK => ?_)
              refine goes_ Try.func17 (by kernel_rfl) rfl #[.agg #[.slice Ao48 x411000_23.length co48, .int .i64 x411001_3, .int .i64 (wrap64 (1 + (Int.tmod (wrap64 (a3)) 3))), .int .i64 (wrap64 (1 + (Int.tmod (wrap64 (a4)) 3))), .int .i64 (wrap64 (Int.tdiv (wrap64 (x17_3 * 50)) x411001_3)), .int .i64 (wrap64 (400 + (wrap64 ((wrap64 (a5)) * 2)))), .bool a6], .slice none 0 0, .int .i64 x16_23] (by rfl) rfl rfl (by (try simp only [List.map_toArray, List.map_cons, List.map_nil]); first | done | rfl | (simp only [List.length_drop, List.length_take]; rfl)) ?_
              refine (flagstonelaw41_population_misses.calls k4 _ _ x411000_23 x411001_3 (wrap64 (1 + (Int.tmod (wrap64 (a3)) 3))) (wrap64 (1 + (Int.tmod (wrap64 (a4)) 3))) (wrap64 (Int.tdiv (wrap64 (x17_3 * 50)) x411001_3)) (wrap64 (400 + (wrap64 ((wrap64 (a5)) * 2)))) a6 _ _ ([] : List (S70)) x16_23 t416 _ ?side1 ?side2 ?side3 ?side4 A53.out).mono ?_
              (case side1 => repeat (first | exact (Kd.R_reads' HO_411000.out).2.2 | (with_reducible refine Kd.C_alloc ?_ _) | (with_reducible refine Kd.C_drewN ?_ _) | (with_reducible refine Kd.C_drew ?_)))
              (case side2 => exact (Kd.R_reads' HO_411000.out).2.1)
              (case side3 => exact Kd.C_nil _ _)
              (case side4 => exact Nat.le_refl _)
              rintro e w55 ⟨rfl, hb⟩
              refine ⟨_, rfl, ?_⟩
              have n0_ := Aside0.mk (Kd.R_below (by (with_reducible repeat (first | apply Kd.R_alloc | apply Kd.R_drewN | apply Kd.R_drew)); exact HO_411000.out) hb)
              have n1_ := Aside0.mk (blk_below (g := gb404) (o := .cells #[.int .u8 a0_0, .int .u8 a0_1, .int .u8 a0_2, .int .u8 a0_3] 36 (0, 0)) (by (with_reducible repeat (first | refine blk_drewN ?_ _ | refine blk_drew ?_ | refine blk_alloc ?_ _)); exact BK404.out) hb)
              have n2_ := Aside0.mk (blk_below (g := gb405) (o := .cells #[.int .u8 a1_0, .int .u8 a1_1, .int .u8 a1_2, .int .u8 a1_3] 36 (0, 0)) (by (with_reducible repeat (first | refine blk_drewN ?_ _ | refine blk_drew ?_ | refine blk_alloc ?_ _)); exact BK405.out) hb)
              have n3_ := Aside0.mk (blk_below (g := gb410) (o := .cells #[.slice Ao48 x411000_23.length co48, .int .i64 x411001_3, .int .i64 (wrap64 (1 + (Int.tmod (wrap64 (a3)) 3))), .int .i64 (wrap64 (1 + (Int.tmod (wrap64 (a4)) 3))), .int .i64 (wrap64 (Int.tdiv (wrap64 (x17_3 * 50)) x411001_3)), .int .i64 (wrap64 (400 + (wrap64 ((wrap64 (a5)) * 2)))), .bool a6] 39 (0, 0)) (by (with_reducible repeat (first | refine blk_drewN ?_ _ | refine blk_drew ?_ | refine blk_alloc ?_ _)); exact BK410.out) hb)
              have n4_ := Aside0.mk (below_step (by repeat (first | (with_reducible first | exact HB.out | apply below_alloc | apply pw_below_drewN | apply below_drew1 | refine below_set ?_ GE404.out | refine below_set ?_ GE405.out | refine below_set ?_ GE410.out) | exact HB.out)) hb)
              clear HO_411000
              clear BK404
              clear BK405
              clear BK410
              clear HB
              have HO_411000 := n0_
              have BK404 := n1_
              have BK405 := n2_
              have BK410 := n3_
              have HB := n4_
              clear n0_ n1_ n2_ n3_ n4_
              (try clear hb)
              (try clear hb2)
              (try clear hk)
              (try clear hi)
              refine hK.out _ _ ⟨(blk_cell BK410.out 0).trans rfl, (blk_cell BK410.out 1).trans rfl, (blk_cell BK410.out 2).trans rfl, (blk_cell BK410.out 3).trans rfl, (blk_cell BK410.out 4).trans rfl, (blk_cell BK410.out 5).trans rfl, (blk_cell BK410.out 6).trans rfl⟩ (fun hHeld => ?_)
              clear hK K
              refine norm_ (a' := ?_) ?_ ?_
              rotate_left
              ·show Act.put _ (some 113) _ = _
               simp only [Act.put, List.setIfInBounds_toArray, List.set_cons_zero, List.set_cons_succ, i64_w, i32_w]
               rfl
              refine pure_ (i := 3) (N := some 114) (v := ?_) (a' := ?_) #[true, true, true, true, true, true, true, true, false, false] rfl rfl (any_of HT_.out (by kernel_rfl)) (fun _ _ _ h => h) (Or.inl ⟨by rfl, ?_⟩) ?_ ?_
              rotate_left
              ·intro w'
               go_simp
               with_reducible rfl
              rotate_left
              ·simp only [Act.put, List.setIfInBounds_toArray, List.set_cons_zero, List.set_cons_succ, i64_w, i32_w]
               rfl
              refine pure_ (i := 8) (N := some 119) (v := ?_) (a' := ?_) #[true, true, true, true, true, true, true, true, true, false] rfl rfl (any_of HT_.out (by kernel_rfl)) (fun _ _ _ h => h) (Or.inl ⟨by rfl, ?_⟩) ?_ ?_
              rotate_left
              ·intro w'
               go_simp
               with_reducible rfl
              rotate_left
              ·simp only [Act.put, List.setIfInBounds_toArray, List.set_cons_zero, List.set_cons_succ, i64_w, i32_w]
               rfl
              refine pure_ (i := 9) (N := some 14) (v := ?_) (a' := ?_) #[true, true, true, true, true, true, true, true, true, true] rfl rfl (any_of HT_.out (by kernel_rfl)) (fun _ _ _ h => h) (Or.inl ⟨by rfl, ?_⟩) ?_ ?_
              rotate_left
              ·intro w'
               go_simp
               with_reducible rfl
              rotate_left
              ·simp only [Act.put, List.setIfInBounds_toArray, List.set_cons_zero, List.set_cons_succ, i64_w, i32_w]
               rfl
              refine done_ (done_of HT_.out (by kernel_rfl)) ?_
              try go_wp2
              go_ret
              exact ⟨by first | rfl | (simp [errW_none, errW_some] <;> rfl) | (simp [*, errW_none, errW_some] <;> rfl), by repeat (first | (with_reducible first | exact HB.out | apply below_alloc | apply pw_below_drewN | apply below_drew1 | refine below_set ?_ GE404.out | refine below_set ?_ GE405.out | refine below_set ?_ GE410.out) | exact HB.out)⟩
          ·rw [if_neg c44] at H
           have c44b0 : ((Int.tmod (wrap64 (x17_3 * 50)) x411001_3) == 0) = false := beq_eq_false_iff_ne.mpr c44
           have c44b1 : ((Int.tmod (wrap64 (x17_3 * 50)) x411001_3) != 0) = true := bne_iff_ne.mpr c44
           obtain rfl := Option.some.inj H
           have hnb56 := NB410_404.out
           have hnc56 := NB404_410.out
           have hnb57 := NB410_405.out
           have hnc57 := NB405_410.out
           have hcz58_0 : wr.cell? ⟨gb410, 0, none⟩ = some (u411000) := (blk_cell BK410.out 0).trans rfl
           have hcz58_1 : wr.cell? ⟨gb410, 1, none⟩ = some (.int .i64 x411001_3) := (blk_cell BK410.out 1).trans rfl
           have hcz58_2 : wr.cell? ⟨gb410, 2, none⟩ = some (.int .i64 (wrap64 (1 + (Int.tmod (wrap64 (a3)) 3)))) := (blk_cell BK410.out 2).trans rfl
           have hcz58_3 : wr.cell? ⟨gb410, 3, none⟩ = some (.int .i64 (wrap64 (1 + (Int.tmod (wrap64 (a4)) 3)))) := (blk_cell BK410.out 3).trans rfl
           have hcz58_4 : wr.cell? ⟨gb410, 4, none⟩ = some (.int .i64 0) := (blk_cell BK410.out 4).trans rfl
           have hcz58_5 : wr.cell? ⟨gb410, 5, none⟩ = some (.int .i64 (wrap64 (400 + (wrap64 ((wrap64 (a5)) * 2))))) := (blk_cell BK410.out 5).trans rfl
           have hcz58_6 : wr.cell? ⟨gb410, 6, none⟩ = some (.bool a6) := (blk_cell BK410.out 6).trans rfl
           have hfz58_0 := blk_frozen BK410.out 0
           have hfz58_1 := blk_frozen BK410.out 1
           have hfz58_2 := blk_frozen BK410.out 2
           have hfz58_3 := blk_frozen BK410.out 3
           have hfz58_4 := blk_frozen BK410.out 4
           have hfz58_5 := blk_frozen BK410.out 5
           have hfz58_6 := blk_frozen BK410.out 6
           obtain ⟨Ao59, co59, eo59⟩ := Kd.R_slice HO_411000.out
           subst eo59
           go_wp2
           go_ret
           exact ⟨by first | rfl | (simp [errW_none, errW_some] <;> rfl) | (simp [*, errW_none, errW_some] <;> rfl), by repeat (first | (with_reducible first | exact HB.out | apply below_alloc | apply pw_below_drewN | apply below_drew1 | refine below_set ?_ GE404.out | refine below_set ?_ GE405.out | refine below_set ?_ GE410.out) | exact HB.out)⟩
 ·replace c9 := Bool.eq_false_iff.mpr c9
  subst c9
  have H1 : (some false) = some r := by rw [if_neg (show ¬ (false = true) by decide)] at H; exact H
  clear H
  have H := H1
  clear H1
  obtain rfl := Option.some.inj H
  go_enter Try.func4, Try.ntmps4
  go_wp2_with (first | ((with_reducible refine gate_dst (N := 7) rfl ?_); refine box_event ?hg (N := 7) ?hd (cs := #[.int .u8 a0_0, .int .u8 a0_1, .int .u8 a0_2, .int .u8 a0_3]) (t := 36) ?hr ?_; (case hd => rfl); (case hg => rfl); (case hr => first | (go_simp; done) | (go_simp; rfl)); intro gb404 hg w60 hbox hb; have n0_ := Aside0.mk (below_step (by repeat (first | (with_reducible first | exact HB.out | apply below_alloc | apply pw_below_drewN | apply below_drew1) | exact HB.out)) hb); have n1_ := Aside0.mk (hbox); have n2_ := Aside0.mk ((by rw [hg]; exact (below_size (by repeat (first | (with_reducible first | exact HB.out | apply below_alloc | apply pw_below_drewN | apply below_drew1) | exact HB.out))) : w.heap.size ≤ gb404)); have n3_ := Aside0.mk ((by rw [hg]; exact (below_size (by repeat (first | (with_reducible first | exact HB.out | apply below_alloc | apply pw_below_drewN | apply below_drew1) | exact HB.out))) : w.heap.size ≤ gb404)); clear HB; have HB := n0_; have BK404 := n1_; have GW404 := n2_; have GE404 := n3_; clear n0_ n1_ n2_ n3_; clear hb hbox hg) | ((with_reducible refine gate_dst (N := 8) rfl ?_); refine box_event ?hg (N := 8) ?hd (cs := #[.int .u8 a1_0, .int .u8 a1_1, .int .u8 a1_2, .int .u8 a1_3]) (t := 36) ?hr ?_; (case hd => rfl); (case hg => rfl); (case hr => first | (go_simp; done) | (go_simp; rfl)); intro gb405 hg w61 hbox hb; have n0_ := Aside0.mk (blk_below (g := gb404) (o := .cells #[.int .u8 a0_0, .int .u8 a0_1, .int .u8 a0_2, .int .u8 a0_3] 36 (0, 0)) (by (with_reducible repeat (first | refine blk_drewN ?_ _ | refine blk_drew ?_ | refine blk_alloc ?_ _)); exact BK404.out) hb); have n1_ := Aside0.mk (below_step (by repeat (first | (with_reducible first | exact HB.out | apply below_alloc | apply pw_below_drewN | apply below_drew1 | refine below_set ?_ GE404.out) | exact HB.out)) hb); have n2_ := Aside0.mk (hbox); have n3_ := Aside0.mk ((by rw [hg]; exact (below_size (by repeat (first | (with_reducible first | exact HB.out | apply below_alloc | apply pw_below_drewN | apply below_drew1 | refine below_set ?_ GE404.out) | exact HB.out))) : w.heap.size ≤ gb405)); have n4_ := Aside0.mk ((by rw [hg]; exact (below_size (by repeat (first | (with_reducible first | exact HB.out | apply below_alloc | apply pw_below_drewN | apply below_drew1 | refine below_set ?_ GE404.out) | exact HB.out))) : w.heap.size ≤ gb405)); have n5_ := Aside0.mk ((by rw [hg]; exact Nat.ne_of_lt (blk_lt (g := gb404) (o := .cells #[.int .u8 a0_0, .int .u8 a0_1, .int .u8 a0_2, .int .u8 a0_3] 36 (0, 0)) (by (with_reducible repeat (first | refine blk_drewN ?_ _ | refine blk_drew ?_ | refine blk_alloc ?_ _)); exact BK404.out)) : gb404 ≠ gb405)); have n6_ := Aside0.mk ((by rw [hg]; exact Nat.ne_of_gt (blk_lt (g := gb404) (o := .cells #[.int .u8 a0_0, .int .u8 a0_1, .int .u8 a0_2, .int .u8 a0_3] 36 (0, 0)) (by (with_reducible repeat (first | refine blk_drewN ?_ _ | refine blk_drew ?_ | refine blk_alloc ?_ _)); exact BK404.out)) : gb405 ≠ gb404)); clear BK404; clear HB; have BK404 := n0_; have HB := n1_; have BK405 := n2_; have GW405 := n3_; have GE405 := n4_; have NB404_405 := n5_; have NB405_404 := n6_; clear n0_ n1_ n2_ n3_ n4_ n5_ n6_; clear hb hbox hg) | ((with_reducible refine gate_callee (f := 10) rfl ?_); refine goesL_ (some 22) rfl rfl Try.func10 (by kernel_rfl) rfl #[] rfl (by (try simp only [List.map_toArray, List.map_cons, List.map_nil]); first | done | rfl | (simp only [List.length_drop, List.length_take]; rfl)) ?_; (with_reducible refine (flagstonelaw41_awake.calls k  false _ A8.out).mono ?_); rintro e w62 ⟨rfl, hb⟩; refine ⟨_, rfl, ?_⟩; have n0_ := Aside0.mk (blk_below (g := gb404) (o := .cells #[.int .u8 a0_0, .int .u8 a0_1, .int .u8 a0_2, .int .u8 a0_3] 36 (0, 0)) (by (with_reducible repeat (first | refine blk_drewN ?_ _ | refine blk_drew ?_ | refine blk_alloc ?_ _)); exact BK404.out) hb); have n1_ := Aside0.mk (blk_below (g := gb405) (o := .cells #[.int .u8 a1_0, .int .u8 a1_1, .int .u8 a1_2, .int .u8 a1_3] 36 (0, 0)) (by (with_reducible repeat (first | refine blk_drewN ?_ _ | refine blk_drew ?_ | refine blk_alloc ?_ _)); exact BK405.out) hb); have n2_ := Aside0.mk (below_step (by repeat (first | (with_reducible first | exact HB.out | apply below_alloc | apply pw_below_drewN | apply below_drew1 | refine below_set ?_ GE404.out | refine below_set ?_ GE405.out) | exact HB.out)) hb); clear BK404; clear BK405; clear HB; have BK404 := n0_; have BK405 := n1_; have HB := n2_; clear n0_ n1_ n2_; (try clear hb); (try clear hb2); (try clear hk); (try clear hi)))
  go_ret
  exact ⟨by first | rfl | (simp [errW_none, errW_some] <;> rfl) | (simp [*, errW_none, errW_some] <;> rfl), by repeat (first | (with_reducible first | exact HB.out | apply below_alloc | apply pw_below_drewN | apply below_drew1 | refine below_set ?_ GE404.out | refine below_set ?_ GE405.out) | exact HB.out)⟩

/-- THE ONE PURE STATEMENT of flagstonelaw41_SequenceLevel: yours. -/
def flagstonelaw41_SequenceLevel.Pure : Prop := ∀ (a0_0 : Int) (a0_1 : Int) (a0_2 : Int) (a0_3 : Int) (a1_0 : Int) (a1_1 : Int) (a1_2 : Int) (a1_3 : Int) (a2 : Bool) (a3 : Int) (a4 : Int) (a5 : Int) (a6 : Bool), (Lit.int .u8 a0_0).wf = true → (Lit.int .u8 a0_1).wf = true → (Lit.int .u8 a0_2).wf = true → (Lit.int .u8 a0_3).wf = true → (Lit.int .u8 a1_0).wf = true → (Lit.int .u8 a1_1).wf = true → (Lit.int .u8 a1_2).wf = true → (Lit.int .u8 a1_3).wf = true → (Lit.int .u8 a3).wf = true → (Lit.int .u8 a4).wf = true → (Lit.int .u8 a5).wf = true → ∃ k, flagstonelaw41_SequenceLevel.f k a0_0 a0_1 a0_2 a0_3 a1_0 a1_1 a1_2 a1_3 a2 a3 a4 a5 a6 = some true

end Go.Proofs.Ytdclcdaoidbgbaa.PA
