-- Written by a program of this seat's session (wip/tools/ownprint.py, over the kit's printer) out of the translation: functions and their contracts.
import Derived.Test.YtdmhdbebjjhopaaPA0
import Derived.Test.YtdmhdbebjjhopaaPA6
import Derived.Test.YtdmhdbebjjhopaaPA9
namespace Go.Proofs.Ytdmhdbebjjhopaa.PA
open Go.RowKit Go.Proofs.YtdmhdbebjjhopaaW.PrintWords Go.Proofs.YtdmhdbebjjhopaaW.PrintLast Go.Proofs.YtdmhdbebjjhopaaW.PrintMore
attribute [local go_sem] max2_int min2_int max_two min_two max_three min_three max_four min_four   -- for this text's walks alone
set_option linter.unusedVariables false
set_option linter.unusedSimpArgs false

/-! ### flagstonelaw39_ScoreValid: function 5 -/
def flagstonelaw39_ScoreValid.l0 : Nat → List (S37) → Int → Option (Bool)
  | 0, _, _ => none
  | k + 1, x12, x13 => if x13 < (x12.length : Int) then (if 0 ≤ x13 then ((score_Valid.f ((rd_T37 x12 x13).f0) ((rd_T37 x12 x13).f1) ((rd_T37 x12 x13).f2)).bind fun t214 => ((flagstoneref39_Valid.f ((rd_T37 x12 x13).f0) ((rd_T37 x12 x13).f1) ((rd_T37 x12 x13).f2)).bind fun t216 => (if (t214 != t216) = true then (some false) else (flagstonelaw39_ScoreValid.l0 k x12 (wrap64 (x13 + 1)))))) else (none)) else (some true)
def flagstonelaw39_ScoreValid.f (k : Nat) (a0_0 : Int) (a0_1 : Int) (a0_2 : Int) (a1 : Int) (a2 : Int) (a3 : Int) : Option (Bool) := (flagstonelaw39_awake.f k).bind fun t206 => (if t206 = true then (flagstonelaw39_ScoreValid.l0 k (([(⟨a0_0, a0_1, a0_2⟩ : S37), (⟨wrap64 ((Int.tmod (wrap64 (a1)) 12) - 6), wrap64 ((Int.tmod (wrap64 (a2)) 8) - 1), Int.tmod (wrap64 (a3)) 10⟩ : S37), (⟨wrap64 ((wrap64 ((wrap64 (562949953421311 + (Int.tmod (wrap64 (a3)) 3))) - (wrap64 (1 + (Int.tmod (wrap64 (a2)) 2))))) + (wrap64 ((Int.tmod (wrap64 (a1)) 3) - 1))), wrap64 (1 + (Int.tmod (wrap64 (a2)) 2)), wrap64 (562949953421311 + (Int.tmod (wrap64 (a3)) 3))⟩ : S37), (⟨wrap64 (-(wrap64 ((wrap64 ((wrap64 (562949953421311 + (Int.tmod (wrap64 (a3)) 3))) - (wrap64 (1 + (Int.tmod (wrap64 (a2)) 2))))) + (wrap64 ((Int.tmod (wrap64 (a1)) 3) - 1))))), wrap64 (1 + (Int.tmod (wrap64 (a2)) 2)), wrap64 (562949953421311 + (Int.tmod (wrap64 (a3)) 3))⟩ : S37)] : List (S37))) 0) else (some false))
theorem flagstonelaw39_ScoreValid.mono_l : ∀ k, (∀ y0 y1, LeO (flagstonelaw39_ScoreValid.l0 k y0 y1) (flagstonelaw39_ScoreValid.l0 (k + 1) y0 y1))
  | 0 => fun _ _ r h => by simp [flagstonelaw39_ScoreValid.l0] at h
  | k + 1 => by
    have ih0 := flagstonelaw39_ScoreValid.mono_l k
    · intro y0 y1
      unfold flagstonelaw39_ScoreValid.l0
      repeat' first
      | (with_reducible exact ih0 _ _)
      | (with_reducible exact flagstonelaw39_awake.mono _)
      | (with_reducible exact LeO.refl _)
      | (with_reducible exact LeO.none _)
      | (with_reducible refine LeO.ite ?_ ?_)
      | (with_reducible refine LeO.bind ?_ (fun _ => ?_))
      | exact ih0 _ _
      | exact flagstonelaw39_awake.mono _
      | exact LeO.none _
      | refine LeO.ite ?_ ?_
      | refine LeO.bind ?_ (fun _ => ?_)
theorem flagstonelaw39_ScoreValid.mono : ∀ a0 a1 a2 a3 a4 a5 k, LeO (flagstonelaw39_ScoreValid.f k a0 a1 a2 a3 a4 a5) (flagstonelaw39_ScoreValid.f (k + 1) a0 a1 a2 a3 a4 a5) := by
  intro a0 a1 a2 a3 a4 a5 k
  have ih0 := flagstonelaw39_ScoreValid.mono_l k
  unfold flagstonelaw39_ScoreValid.f
  repeat' first
      | (with_reducible exact ih0 _ _)
      | (with_reducible exact flagstonelaw39_awake.mono _)
      | (with_reducible exact LeO.refl _)
      | (with_reducible exact LeO.none _)
      | (with_reducible refine LeO.ite ?_ ?_)
      | (with_reducible refine LeO.bind ?_ (fun _ => ?_))
      | exact ih0 _ _
      | exact flagstonelaw39_awake.mono _
      | exact LeO.none _
      | refine LeO.ite ?_ ?_
      | refine LeO.bind ?_ (fun _ => ?_)
def flagstonelaw39_ScoreValid.T12 : Bool × List (List Nat × List Nat) := (true, [([], []), ([], []), ([0, 1], [0, 1]), ([2], [2]), ([3], [3]), ([], []), ([], []), ([5, 6], [5, 6]), ([7], [7]), ([8, 4], [8]), ([4, 9], [4, 9])])
def flagstonelaw39_ScoreValid.B12 : List Nat := [0, 0, 3, 7, 15, 0, 0, 96, 224, 511, 1023]
theorem flagstonelaw39_ScoreValid.tab12 : rtab .any (opsOf Try.f5 12) = flagstonelaw39_ScoreValid.T12 := by kernel_rfl
theorem flagstonelaw39_ScoreValid.bits12 : waitsOk flagstonelaw39_ScoreValid.T12.2 flagstonelaw39_ScoreValid.B12 = true := by kernel_rfl
set_option maxHeartbeats 8000000 in
set_option maxRecDepth 100000 in
theorem flagstonelaw39_ScoreValid.calls (k : Nat) (a0_0 : Int) (a0_1 : Int) (a0_2 : Int) (a1 : Int) (a2 : Int) (a3 : Int) (r : Bool) (w : World) (h : flagstonelaw39_ScoreValid.f k a0_0 a0_1 a0_2 a1 a2 a3 = some r) :
    Calls Try.prog 5 #[.agg #[.int .i64 a0_0, .int .i64 a0_1, .int .i64 a0_2], .int .u8 a1, .int .u8 a2, .int .u8 a3] w fun e w' => e = .returned (.bool r) ∧ Below w.heap.size w w' := by
  have hu37 := Try.underlying37
  have HB := Aside0.mk (Below.refl w.heap.size w)
  have H : ((flagstonelaw39_awake.f k).bind fun t206 => (if t206 = true then (flagstonelaw39_ScoreValid.l0 k (([(⟨a0_0, a0_1, a0_2⟩ : S37), (⟨wrap64 ((Int.tmod (wrap64 (a1)) 12) - 6), wrap64 ((Int.tmod (wrap64 (a2)) 8) - 1), Int.tmod (wrap64 (a3)) 10⟩ : S37), (⟨wrap64 ((wrap64 ((wrap64 (562949953421311 + (Int.tmod (wrap64 (a3)) 3))) - (wrap64 (1 + (Int.tmod (wrap64 (a2)) 2))))) + (wrap64 ((Int.tmod (wrap64 (a1)) 3) - 1))), wrap64 (1 + (Int.tmod (wrap64 (a2)) 2)), wrap64 (562949953421311 + (Int.tmod (wrap64 (a3)) 3))⟩ : S37), (⟨wrap64 (-(wrap64 ((wrap64 ((wrap64 (562949953421311 + (Int.tmod (wrap64 (a3)) 3))) - (wrap64 (1 + (Int.tmod (wrap64 (a2)) 2))))) + (wrap64 ((Int.tmod (wrap64 (a1)) 3) - 1))))), wrap64 (1 + (Int.tmod (wrap64 (a2)) 2)), wrap64 (562949953421311 + (Int.tmod (wrap64 (a3)) 3))⟩ : S37)] : List (S37))) 0) else (some false))) = some r := h
  clear h
  replace H := Option.bind_eq_some_iff.mp H
  obtain ⟨t206, A50, H⟩ := H
  replace H : (if t206 = true then (flagstonelaw39_ScoreValid.l0 k (([(⟨a0_0, a0_1, a0_2⟩ : S37), (⟨wrap64 ((Int.tmod (wrap64 (a1)) 12) - 6), wrap64 ((Int.tmod (wrap64 (a2)) 8) - 1), Int.tmod (wrap64 (a3)) 10⟩ : S37), (⟨wrap64 ((wrap64 ((wrap64 (562949953421311 + (Int.tmod (wrap64 (a3)) 3))) - (wrap64 (1 + (Int.tmod (wrap64 (a2)) 2))))) + (wrap64 ((Int.tmod (wrap64 (a1)) 3) - 1))), wrap64 (1 + (Int.tmod (wrap64 (a2)) 2)), wrap64 (562949953421311 + (Int.tmod (wrap64 (a3)) 3))⟩ : S37), (⟨wrap64 (-(wrap64 ((wrap64 ((wrap64 (562949953421311 + (Int.tmod (wrap64 (a3)) 3))) - (wrap64 (1 + (Int.tmod (wrap64 (a2)) 2))))) + (wrap64 ((Int.tmod (wrap64 (a1)) 3) - 1))))), wrap64 (1 + (Int.tmod (wrap64 (a2)) 2)), wrap64 (562949953421311 + (Int.tmod (wrap64 (a3)) 3))⟩ : S37)] : List (S37))) 0) else (some false)) = some r := H
  have A5 := Aside0.mk A50
  clear A50
  by_cases c6 : t206 = true
  · subst c6
    have H1 : (flagstonelaw39_ScoreValid.l0 k (([(⟨a0_0, a0_1, a0_2⟩ : S37), (⟨wrap64 ((Int.tmod (wrap64 (a1)) 12) - 6), wrap64 ((Int.tmod (wrap64 (a2)) 8) - 1), Int.tmod (wrap64 (a3)) 10⟩ : S37), (⟨wrap64 ((wrap64 ((wrap64 (562949953421311 + (Int.tmod (wrap64 (a3)) 3))) - (wrap64 (1 + (Int.tmod (wrap64 (a2)) 2))))) + (wrap64 ((Int.tmod (wrap64 (a1)) 3) - 1))), wrap64 (1 + (Int.tmod (wrap64 (a2)) 2)), wrap64 (562949953421311 + (Int.tmod (wrap64 (a3)) 3))⟩ : S37), (⟨wrap64 (-(wrap64 ((wrap64 ((wrap64 (562949953421311 + (Int.tmod (wrap64 (a3)) 3))) - (wrap64 (1 + (Int.tmod (wrap64 (a2)) 2))))) + (wrap64 ((Int.tmod (wrap64 (a1)) 3) - 1))))), wrap64 (1 + (Int.tmod (wrap64 (a2)) 2)), wrap64 (562949953421311 + (Int.tmod (wrap64 (a3)) 3))⟩ : S37)] : List (S37))) 0) = some r := by rw [if_pos rfl] at H; exact H
    clear H
    have H := H1
    clear H1
    obtain ⟨y210, hy210⟩ : ∃ y_ : List (S37), y_ = (([(⟨a0_0, a0_1, a0_2⟩ : S37), (⟨wrap64 ((Int.tmod (wrap64 (a1)) 12) - 6), wrap64 ((Int.tmod (wrap64 (a2)) 8) - 1), Int.tmod (wrap64 (a3)) 10⟩ : S37), (⟨wrap64 ((wrap64 ((wrap64 (562949953421311 + (Int.tmod (wrap64 (a3)) 3))) - (wrap64 (1 + (Int.tmod (wrap64 (a2)) 2))))) + (wrap64 ((Int.tmod (wrap64 (a1)) 3) - 1))), wrap64 (1 + (Int.tmod (wrap64 (a2)) 2)), wrap64 (562949953421311 + (Int.tmod (wrap64 (a3)) 3))⟩ : S37), (⟨wrap64 (-(wrap64 ((wrap64 ((wrap64 (562949953421311 + (Int.tmod (wrap64 (a3)) 3))) - (wrap64 (1 + (Int.tmod (wrap64 (a2)) 2))))) + (wrap64 ((Int.tmod (wrap64 (a1)) 3) - 1))))), wrap64 (1 + (Int.tmod (wrap64 (a2)) 2)), wrap64 (562949953421311 + (Int.tmod (wrap64 (a3)) 3))⟩ : S37)] : List (S37))) := ⟨_, rfl⟩
    replace H : (flagstonelaw39_ScoreValid.l0 k y210 0) = some r := by first | (rw [hy210]; with_reducible exact H) | (have H2_ := (Option.bind_some _ _).symm.trans H; rw [hy210]; with_reducible exact H2_) | (have H2_ := (Option.bind_some _ _).symm.trans H; with_reducible exact H2_) | with_reducible exact H | (rw [hy210]; exact H) | exact H
    have Ny210 := Aside0.mk hy210
    clear hy210
    have H' := Aside0.mk H
    clear H
    go_enter Try.func5, Try.ntmps5
    go_wp2_with (first | ((with_reducible refine gate_dst (N := 4) rfl ?_); refine box_event ?hg (N := 4) ?hd (cs := #[.int .i64 a0_0, .int .i64 a0_1, .int .i64 a0_2]) (t := 37) ?hr ?_; (case hd => rfl); (case hg => rfl); (case hr => first | (go_simp; done) | (go_simp; rfl)); intro gb205 hg w7 hbox hb; have n0_ := Aside0.mk (below_step (by repeat (first | (with_reducible first | exact HB.out | apply below_alloc | apply pw_below_drewN | apply below_drew1) | exact HB.out)) hb); have n1_ := Aside0.mk (hbox); have n2_ := Aside0.mk ((by rw [hg]; exact (below_size (by repeat (first | (with_reducible first | exact HB.out | apply below_alloc | apply pw_below_drewN | apply below_drew1) | exact HB.out))) : w.heap.size ≤ gb205)); have n3_ := Aside0.mk ((by rw [hg]; exact (below_size (by repeat (first | (with_reducible first | exact HB.out | apply below_alloc | apply pw_below_drewN | apply below_drew1) | exact HB.out))) : w.heap.size ≤ gb205)); clear HB; have HB := n0_; have BK205 := n1_; have GW205 := n2_; have GE205 := n3_; clear n0_ n1_ n2_ n3_; clear hb hbox hg) | ((with_reducible refine gate_callee (f := 11) rfl ?_); refine goesL_ (some 14) rfl rfl Try.func11 (by kernel_rfl) rfl #[] rfl (by (try simp only [List.map_toArray, List.map_cons, List.map_nil]); first | done | rfl | (simp only [List.length_drop, List.length_take]; rfl)) ?_; (with_reducible refine (flagstonelaw39_awake.calls k  true _ A5.out).mono ?_); rintro e w8 ⟨rfl, hb⟩; refine ⟨_, rfl, ?_⟩; have n0_ := Aside0.mk (blk_below (g := gb205) (o := .cells #[.int .i64 a0_0, .int .i64 a0_1, .int .i64 a0_2] 37 (0, 0)) (by (with_reducible repeat (first | refine blk_drewN ?_ _ | refine blk_drew ?_ | refine blk_alloc ?_ _)); exact BK205.out) hb); have n1_ := Aside0.mk (below_step (by repeat (first | (with_reducible first | exact HB.out | apply below_alloc | apply pw_below_drewN | apply below_drew1 | refine below_set ?_ GE205.out) | exact HB.out)) hb); clear BK205; clear HB; have BK205 := n0_; have HB := n1_; clear n0_ n1_; (try clear hb); (try clear hb2); (try clear hk); (try clear hi)) | ((with_reducible refine gate_dst (N := 9) rfl ?_); refine box_event ?hg (N := 9) ?hd (cs := #[.int .i64 0, .int .i64 0, .int .i64 0]) (t := 37) ?hr ?_; (case hd => rfl); (case hg => rfl); (case hr => first | (go_simp; done) | (go_simp; rfl)); intro gb207 hg w9 hbox hb; have n0_ := Aside0.mk (blk_below (g := gb205) (o := .cells #[.int .i64 a0_0, .int .i64 a0_1, .int .i64 a0_2] 37 (0, 0)) (by (with_reducible repeat (first | refine blk_drewN ?_ _ | refine blk_drew ?_ | refine blk_alloc ?_ _)); exact BK205.out) hb); have n1_ := Aside0.mk (below_step (by repeat (first | (with_reducible first | exact HB.out | apply below_alloc | apply pw_below_drewN | apply below_drew1 | refine below_set ?_ GE205.out) | exact HB.out)) hb); have n2_ := Aside0.mk (hbox); have n3_ := Aside0.mk ((by rw [hg]; exact (below_size (by repeat (first | (with_reducible first | exact HB.out | apply below_alloc | apply pw_below_drewN | apply below_drew1 | refine below_set ?_ GE205.out) | exact HB.out))) : w.heap.size ≤ gb207)); have n4_ := Aside0.mk ((by rw [hg]; exact (below_size (by repeat (first | (with_reducible first | exact HB.out | apply below_alloc | apply pw_below_drewN | apply below_drew1 | refine below_set ?_ GE205.out) | exact HB.out))) : w.heap.size ≤ gb207)); have n5_ := Aside0.mk ((by rw [hg]; exact Nat.ne_of_lt (blk_lt (g := gb205) (o := .cells #[.int .i64 a0_0, .int .i64 a0_1, .int .i64 a0_2] 37 (0, 0)) (by (with_reducible repeat (first | refine blk_drewN ?_ _ | refine blk_drew ?_ | refine blk_alloc ?_ _)); exact BK205.out)) : gb205 ≠ gb207)); have n6_ := Aside0.mk ((by rw [hg]; exact Nat.ne_of_gt (blk_lt (g := gb205) (o := .cells #[.int .i64 a0_0, .int .i64 a0_1, .int .i64 a0_2] 37 (0, 0)) (by (with_reducible repeat (first | refine blk_drewN ?_ _ | refine blk_drew ?_ | refine blk_alloc ?_ _)); exact BK205.out)) : gb207 ≠ gb205)); clear BK205; clear HB; have BK205 := n0_; have HB := n1_; have BK207 := n2_; have GW207 := n3_; have GE207 := n4_; have NB205_207 := n5_; have NB207_205 := n6_; clear n0_ n1_ n2_ n3_ n4_ n5_ n6_; clear hb hbox hg; have hnb10 := NB207_205.out; have hnc10 := NB205_207.out; have hcz11_0 : w9.cell? ⟨gb207, 0, none⟩ = some (.int .i64 0) := (blk_cell BK207.out 0).trans rfl; have hcz11_1 : w9.cell? ⟨gb207, 1, none⟩ = some (.int .i64 0) := (blk_cell BK207.out 1).trans rfl; have hcz11_2 : w9.cell? ⟨gb207, 2, none⟩ = some (.int .i64 0) := (blk_cell BK207.out 2).trans rfl; have hfz11_0 := blk_frozen BK207.out 0; have hfz11_1 := blk_frozen BK207.out 1; have hfz11_2 := blk_frozen BK207.out 2) | ((with_reducible refine gate_dst (N := 10) rfl ?_); refine box_event ?hg (N := 10) ?hd (cs := #[.int .i64 0, .int .i64 0, .int .i64 0]) (t := 37) ?hr ?_; (case hd => rfl); (case hg => rfl); (case hr => first | (go_simp; done) | (go_simp; rfl)); intro gb208 hg w12 hbox hb; have n0_ := Aside0.mk (blk_below (g := gb205) (o := .cells #[.int .i64 a0_0, .int .i64 a0_1, .int .i64 a0_2] 37 (0, 0)) (by (with_reducible repeat (first | refine blk_drewN ?_ _ | refine blk_drew ?_ | refine blk_alloc ?_ _)); refine blk_far ?_ NB205_207.out _; (with_reducible repeat (first | refine blk_drewN ?_ _ | refine blk_drew ?_ | refine blk_alloc ?_ _)); refine blk_far ?_ NB205_207.out _; (with_reducible repeat (first | refine blk_drewN ?_ _ | refine blk_drew ?_ | refine blk_alloc ?_ _)); refine blk_far ?_ NB205_207.out _; (with_reducible repeat (first | refine blk_drewN ?_ _ | refine blk_drew ?_ | refine blk_alloc ?_ _)); exact BK205.out) hb); have n1_ := Aside0.mk (blk_below (g := gb207) (o := .cells #[.int .i64 (wrap64 ((Int.tmod (wrap64 (a1)) 12) - 6)), .int .i64 (wrap64 ((Int.tmod (wrap64 (a2)) 8) - 1)), .int .i64 (Int.tmod (wrap64 (a3)) 10)] 37 (0, 0)) (by (with_reducible repeat (first | refine blk_drewN ?_ _ | refine blk_drew ?_ | refine blk_alloc ?_ _)); refine blk_put (cs := #[.int .i64 (wrap64 ((Int.tmod (wrap64 (a1)) 12) - 6)), .int .i64 (wrap64 ((Int.tmod (wrap64 (a2)) 8) - 1)), .int .i64 0]) ?_ 2 _ rfl; (with_reducible repeat (first | refine blk_drewN ?_ _ | refine blk_drew ?_ | refine blk_alloc ?_ _)); refine blk_put (cs := #[.int .i64 (wrap64 ((Int.tmod (wrap64 (a1)) 12) - 6)), .int .i64 0, .int .i64 0]) ?_ 1 _ rfl; (with_reducible repeat (first | refine blk_drewN ?_ _ | refine blk_drew ?_ | refine blk_alloc ?_ _)); refine blk_put (cs := #[.int .i64 0, .int .i64 0, .int .i64 0]) ?_ 0 _ rfl; (with_reducible repeat (first | refine blk_drewN ?_ _ | refine blk_drew ?_ | refine blk_alloc ?_ _)); exact BK207.out) hb); have n2_ := Aside0.mk (below_step (by repeat (first | (with_reducible first | exact HB.out | apply below_alloc | apply pw_below_drewN | apply below_drew1 | refine below_set ?_ GE205.out | refine below_set ?_ GE207.out) | exact HB.out)) hb); have n3_ := Aside0.mk (hbox); have n4_ := Aside0.mk ((by rw [hg]; exact (below_size (by repeat (first | (with_reducible first | exact HB.out | apply below_alloc | apply pw_below_drewN | apply below_drew1 | refine below_set ?_ GE205.out | refine below_set ?_ GE207.out) | exact HB.out))) : w.heap.size ≤ gb208)); have n5_ := Aside0.mk ((by rw [hg]; exact (below_size (by repeat (first | (with_reducible first | exact HB.out | apply below_alloc | apply pw_below_drewN | apply below_drew1 | refine below_set ?_ GE205.out | refine below_set ?_ GE207.out) | exact HB.out))) : w.heap.size ≤ gb208)); have n6_ := Aside0.mk ((by rw [hg]; exact Nat.ne_of_lt (blk_lt (g := gb205) (o := .cells #[.int .i64 a0_0, .int .i64 a0_1, .int .i64 a0_2] 37 (0, 0)) (by (with_reducible repeat (first | refine blk_drewN ?_ _ | refine blk_drew ?_ | refine blk_alloc ?_ _)); refine blk_far ?_ NB205_207.out _; (with_reducible repeat (first | refine blk_drewN ?_ _ | refine blk_drew ?_ | refine blk_alloc ?_ _)); refine blk_far ?_ NB205_207.out _; (with_reducible repeat (first | refine blk_drewN ?_ _ | refine blk_drew ?_ | refine blk_alloc ?_ _)); refine blk_far ?_ NB205_207.out _; (with_reducible repeat (first | refine blk_drewN ?_ _ | refine blk_drew ?_ | refine blk_alloc ?_ _)); exact BK205.out)) : gb205 ≠ gb208)); have n7_ := Aside0.mk ((by rw [hg]; exact Nat.ne_of_gt (blk_lt (g := gb205) (o := .cells #[.int .i64 a0_0, .int .i64 a0_1, .int .i64 a0_2] 37 (0, 0)) (by (with_reducible repeat (first | refine blk_drewN ?_ _ | refine blk_drew ?_ | refine blk_alloc ?_ _)); refine blk_far ?_ NB205_207.out _; (with_reducible repeat (first | refine blk_drewN ?_ _ | refine blk_drew ?_ | refine blk_alloc ?_ _)); refine blk_far ?_ NB205_207.out _; (with_reducible repeat (first | refine blk_drewN ?_ _ | refine blk_drew ?_ | refine blk_alloc ?_ _)); refine blk_far ?_ NB205_207.out _; (with_reducible repeat (first | refine blk_drewN ?_ _ | refine blk_drew ?_ | refine blk_alloc ?_ _)); exact BK205.out)) : gb208 ≠ gb205)); have n8_ := Aside0.mk ((by rw [hg]; exact Nat.ne_of_lt (blk_lt (g := gb207) (o := .cells #[.int .i64 (wrap64 ((Int.tmod (wrap64 (a1)) 12) - 6)), .int .i64 (wrap64 ((Int.tmod (wrap64 (a2)) 8) - 1)), .int .i64 (Int.tmod (wrap64 (a3)) 10)] 37 (0, 0)) (by (with_reducible repeat (first | refine blk_drewN ?_ _ | refine blk_drew ?_ | refine blk_alloc ?_ _)); refine blk_put (cs := #[.int .i64 (wrap64 ((Int.tmod (wrap64 (a1)) 12) - 6)), .int .i64 (wrap64 ((Int.tmod (wrap64 (a2)) 8) - 1)), .int .i64 0]) ?_ 2 _ rfl; (with_reducible repeat (first | refine blk_drewN ?_ _ | refine blk_drew ?_ | refine blk_alloc ?_ _)); refine blk_put (cs := #[.int .i64 (wrap64 ((Int.tmod (wrap64 (a1)) 12) - 6)), .int .i64 0, .int .i64 0]) ?_ 1 _ rfl; (with_reducible repeat (first | refine blk_drewN ?_ _ | refine blk_drew ?_ | refine blk_alloc ?_ _)); refine blk_put (cs := #[.int .i64 0, .int .i64 0, .int .i64 0]) ?_ 0 _ rfl; (with_reducible repeat (first | refine blk_drewN ?_ _ | refine blk_drew ?_ | refine blk_alloc ?_ _)); exact BK207.out)) : gb207 ≠ gb208)); have n9_ := Aside0.mk ((by rw [hg]; exact Nat.ne_of_gt (blk_lt (g := gb207) (o := .cells #[.int .i64 (wrap64 ((Int.tmod (wrap64 (a1)) 12) - 6)), .int .i64 (wrap64 ((Int.tmod (wrap64 (a2)) 8) - 1)), .int .i64 (Int.tmod (wrap64 (a3)) 10)] 37 (0, 0)) (by (with_reducible repeat (first | refine blk_drewN ?_ _ | refine blk_drew ?_ | refine blk_alloc ?_ _)); refine blk_put (cs := #[.int .i64 (wrap64 ((Int.tmod (wrap64 (a1)) 12) - 6)), .int .i64 (wrap64 ((Int.tmod (wrap64 (a2)) 8) - 1)), .int .i64 0]) ?_ 2 _ rfl; (with_reducible repeat (first | refine blk_drewN ?_ _ | refine blk_drew ?_ | refine blk_alloc ?_ _)); refine blk_put (cs := #[.int .i64 (wrap64 ((Int.tmod (wrap64 (a1)) 12) - 6)), .int .i64 0, .int .i64 0]) ?_ 1 _ rfl; (with_reducible repeat (first | refine blk_drewN ?_ _ | refine blk_drew ?_ | refine blk_alloc ?_ _)); refine blk_put (cs := #[.int .i64 0, .int .i64 0, .int .i64 0]) ?_ 0 _ rfl; (with_reducible repeat (first | refine blk_drewN ?_ _ | refine blk_drew ?_ | refine blk_alloc ?_ _)); exact BK207.out)) : gb208 ≠ gb207)); clear BK205; clear BK207; clear HB; have BK205 := n0_; have BK207 := n1_; have HB := n2_; have BK208 := n3_; have GW208 := n4_; have GE208 := n5_; have NB205_208 := n6_; have NB208_205 := n7_; have NB207_208 := n8_; have NB208_207 := n9_; clear n0_ n1_ n2_ n3_ n4_ n5_ n6_ n7_ n8_ n9_; clear hb hbox hg; have hnb13 := NB208_205.out; have hnc13 := NB205_208.out; have hnb14 := NB208_207.out; have hnc14 := NB207_208.out; have hcz15_0 : w12.cell? ⟨gb208, 0, none⟩ = some (.int .i64 0) := (blk_cell BK208.out 0).trans rfl; have hcz15_1 : w12.cell? ⟨gb208, 1, none⟩ = some (.int .i64 0) := (blk_cell BK208.out 1).trans rfl; have hcz15_2 : w12.cell? ⟨gb208, 2, none⟩ = some (.int .i64 0) := (blk_cell BK208.out 2).trans rfl; have hfz15_0 := blk_frozen BK208.out 0; have hfz15_1 := blk_frozen BK208.out 1; have hfz15_2 := blk_frozen BK208.out 2) | ((with_reducible refine gate_dst (N := 11) rfl ?_); refine box_event ?hg (N := 11) ?hd (cs := #[.int .i64 0, .int .i64 0, .int .i64 0]) (t := 37) ?hr ?_; (case hd => rfl); (case hg => rfl); (case hr => first | (go_simp; done) | (go_simp; rfl)); intro gb209 hg w16 hbox hb; have n0_ := Aside0.mk (blk_below (g := gb205) (o := .cells #[.int .i64 a0_0, .int .i64 a0_1, .int .i64 a0_2] 37 (0, 0)) (by (with_reducible repeat (first | refine blk_drewN ?_ _ | refine blk_drew ?_ | refine blk_alloc ?_ _)); refine blk_far ?_ NB205_208.out _; (with_reducible repeat (first | refine blk_drewN ?_ _ | refine blk_drew ?_ | refine blk_alloc ?_ _)); refine blk_far ?_ NB205_208.out _; (with_reducible repeat (first | refine blk_drewN ?_ _ | refine blk_drew ?_ | refine blk_alloc ?_ _)); refine blk_far ?_ NB205_208.out _; (with_reducible repeat (first | refine blk_drewN ?_ _ | refine blk_drew ?_ | refine blk_alloc ?_ _)); refine blk_far ?_ NB205_208.out _; (with_reducible repeat (first | refine blk_drewN ?_ _ | refine blk_drew ?_ | refine blk_alloc ?_ _)); exact BK205.out) hb); have n1_ := Aside0.mk (blk_below (g := gb207) (o := .cells #[.int .i64 (wrap64 ((Int.tmod (wrap64 (a1)) 12) - 6)), .int .i64 (wrap64 ((Int.tmod (wrap64 (a2)) 8) - 1)), .int .i64 (Int.tmod (wrap64 (a3)) 10)] 37 (0, 0)) (by (with_reducible repeat (first | refine blk_drewN ?_ _ | refine blk_drew ?_ | refine blk_alloc ?_ _)); refine blk_far ?_ NB207_208.out _; (with_reducible repeat (first | refine blk_drewN ?_ _ | refine blk_drew ?_ | refine blk_alloc ?_ _)); refine blk_far ?_ NB207_208.out _; (with_reducible repeat (first | refine blk_drewN ?_ _ | refine blk_drew ?_ | refine blk_alloc ?_ _)); refine blk_far ?_ NB207_208.out _; (with_reducible repeat (first | refine blk_drewN ?_ _ | refine blk_drew ?_ | refine blk_alloc ?_ _)); refine blk_far ?_ NB207_208.out _; (with_reducible repeat (first | refine blk_drewN ?_ _ | refine blk_drew ?_ | refine blk_alloc ?_ _)); exact BK207.out) hb); have n2_ := Aside0.mk (blk_below (g := gb208) (o := .cells #[.int .i64 (wrap64 ((wrap64 ((wrap64 (562949953421311 + (Int.tmod (wrap64 (a3)) 3))) - (wrap64 (1 + (Int.tmod (wrap64 (a2)) 2))))) + (wrap64 ((Int.tmod (wrap64 (a1)) 3) - 1)))), .int .i64 (wrap64 (1 + (Int.tmod (wrap64 (a2)) 2))), .int .i64 (wrap64 (562949953421311 + (Int.tmod (wrap64 (a3)) 3)))] 37 (0, 0)) (by (with_reducible repeat (first | refine blk_drewN ?_ _ | refine blk_drew ?_ | refine blk_alloc ?_ _)); refine blk_put (cs := #[.int .i64 (wrap64 ((Int.tmod (wrap64 (a1)) 3) - 1)), .int .i64 (wrap64 (1 + (Int.tmod (wrap64 (a2)) 2))), .int .i64 (wrap64 (562949953421311 + (Int.tmod (wrap64 (a3)) 3)))]) ?_ 0 _ rfl; (with_reducible repeat (first | refine blk_drewN ?_ _ | refine blk_drew ?_ | refine blk_alloc ?_ _)); refine blk_put (cs := #[.int .i64 (wrap64 ((Int.tmod (wrap64 (a1)) 3) - 1)), .int .i64 (wrap64 (1 + (Int.tmod (wrap64 (a2)) 2))), .int .i64 0]) ?_ 2 _ rfl; (with_reducible repeat (first | refine blk_drewN ?_ _ | refine blk_drew ?_ | refine blk_alloc ?_ _)); refine blk_put (cs := #[.int .i64 (wrap64 ((Int.tmod (wrap64 (a1)) 3) - 1)), .int .i64 0, .int .i64 0]) ?_ 1 _ rfl; (with_reducible repeat (first | refine blk_drewN ?_ _ | refine blk_drew ?_ | refine blk_alloc ?_ _)); refine blk_put (cs := #[.int .i64 0, .int .i64 0, .int .i64 0]) ?_ 0 _ rfl; (with_reducible repeat (first | refine blk_drewN ?_ _ | refine blk_drew ?_ | refine blk_alloc ?_ _)); exact BK208.out) hb); have n3_ := Aside0.mk (below_step (by repeat (first | (with_reducible first | exact HB.out | apply below_alloc | apply pw_below_drewN | apply below_drew1 | refine below_set ?_ GE205.out | refine below_set ?_ GE207.out | refine below_set ?_ GE208.out) | exact HB.out)) hb); have n4_ := Aside0.mk (hbox); have n5_ := Aside0.mk ((by rw [hg]; exact (below_size (by repeat (first | (with_reducible first | exact HB.out | apply below_alloc | apply pw_below_drewN | apply below_drew1 | refine below_set ?_ GE205.out | refine below_set ?_ GE207.out | refine below_set ?_ GE208.out) | exact HB.out))) : w.heap.size ≤ gb209)); have n6_ := Aside0.mk ((by rw [hg]; exact (below_size (by repeat (first | (with_reducible first | exact HB.out | apply below_alloc | apply pw_below_drewN | apply below_drew1 | refine below_set ?_ GE205.out | refine below_set ?_ GE207.out | refine below_set ?_ GE208.out) | exact HB.out))) : w.heap.size ≤ gb209)); have n7_ := Aside0.mk ((by rw [hg]; exact Nat.ne_of_lt (blk_lt (g := gb205) (o := .cells #[.int .i64 a0_0, .int .i64 a0_1, .int .i64 a0_2] 37 (0, 0)) (by (with_reducible repeat (first | refine blk_drewN ?_ _ | refine blk_drew ?_ | refine blk_alloc ?_ _)); refine blk_far ?_ NB205_208.out _; (with_reducible repeat (first | refine blk_drewN ?_ _ | refine blk_drew ?_ | refine blk_alloc ?_ _)); refine blk_far ?_ NB205_208.out _; (with_reducible repeat (first | refine blk_drewN ?_ _ | refine blk_drew ?_ | refine blk_alloc ?_ _)); refine blk_far ?_ NB205_208.out _; (with_reducible repeat (first | refine blk_drewN ?_ _ | refine blk_drew ?_ | refine blk_alloc ?_ _)); refine blk_far ?_ NB205_208.out _; (with_reducible repeat (first | refine blk_drewN ?_ _ | refine blk_drew ?_ | refine blk_alloc ?_ _)); exact BK205.out)) : gb205 ≠ gb209)); have n8_ := Aside0.mk ((by rw [hg]; exact Nat.ne_of_gt (blk_lt (g := gb205) (o := .cells #[.int .i64 a0_0, .int .i64 a0_1, .int .i64 a0_2] 37 (0, 0)) (by (with_reducible repeat (first | refine blk_drewN ?_ _ | refine blk_drew ?_ | refine blk_alloc ?_ _)); refine blk_far ?_ NB205_208.out _; (with_reducible repeat (first | refine blk_drewN ?_ _ | refine blk_drew ?_ | refine blk_alloc ?_ _)); refine blk_far ?_ NB205_208.out _; (with_reducible repeat (first | refine blk_drewN ?_ _ | refine blk_drew ?_ | refine blk_alloc ?_ _)); refine blk_far ?_ NB205_208.out _; (with_reducible repeat (first | refine blk_drewN ?_ _ | refine blk_drew ?_ | refine blk_alloc ?_ _)); refine blk_far ?_ NB205_208.out _; (with_reducible repeat (first | refine blk_drewN ?_ _ | refine blk_drew ?_ | refine blk_alloc ?_ _)); exact BK205.out)) : gb209 ≠ gb205)); have n9_ := Aside0.mk ((by rw [hg]; exact Nat.ne_of_lt (blk_lt (g := gb207) (o := .cells #[.int .i64 (wrap64 ((Int.tmod (wrap64 (a1)) 12) - 6)), .int .i64 (wrap64 ((Int.tmod (wrap64 (a2)) 8) - 1)), .int .i64 (Int.tmod (wrap64 (a3)) 10)] 37 (0, 0)) (by (with_reducible repeat (first | refine blk_drewN ?_ _ | refine blk_drew ?_ | refine blk_alloc ?_ _)); refine blk_far ?_ NB207_208.out _; (with_reducible repeat (first | refine blk_drewN ?_ _ | refine blk_drew ?_ | refine blk_alloc ?_ _)); refine blk_far ?_ NB207_208.out _; (with_reducible repeat (first | refine blk_drewN ?_ _ | refine blk_drew ?_ | refine blk_alloc ?_ _)); refine blk_far ?_ NB207_208.out _; (with_reducible repeat (first | refine blk_drewN ?_ _ | refine blk_drew ?_ | refine blk_alloc ?_ _)); refine blk_far ?_ NB207_208.out _; (with_reducible repeat (first | refine blk_drewN ?_ _ | refine blk_drew ?_ | refine blk_alloc ?_ _)); exact BK207.out)) : gb207 ≠ gb209)); have n10_ := Aside0.mk ((by rw [hg]; exact Nat.ne_of_gt (blk_lt (g := gb207) (o := .cells #[.int .i64 (wrap64 ((Int.tmod (wrap64 (a1)) 12) - 6)), .int .i64 (wrap64 ((Int.tmod (wrap64 (a2)) 8) - 1)), .int .i64 (Int.tmod (wrap64 (a3)) 10)] 37 (0, 0)) (by (with_reducible repeat (first | refine blk_drewN ?_ _ | refine blk_drew ?_ | refine blk_alloc ?_ _)); refine blk_far ?_ NB207_208.out _; (with_reducible repeat (first | refine blk_drewN ?_ _ | refine blk_drew ?_ | refine blk_alloc ?_ _)); refine blk_far ?_ NB207_208.out _; (with_reducible repeat (first | refine blk_drewN ?_ _ | refine blk_drew ?_ | refine blk_alloc ?_ _)); refine blk_far ?_ NB207_208.out _; (with_reducible repeat (first | refine blk_drewN ?_ _ | refine blk_drew ?_ | refine blk_alloc ?_ _)); refine blk_far ?_ NB207_208.out _; (with_reducible repeat (first | refine blk_drewN ?_ _ | refine blk_drew ?_ | refine blk_alloc ?_ _)); exact BK207.out)) : gb209 ≠ gb207)); have n11_ := Aside0.mk ((by rw [hg]; exact Nat.ne_of_lt (blk_lt (g := gb208) (o := .cells #[.int .i64 (wrap64 ((wrap64 ((wrap64 (562949953421311 + (Int.tmod (wrap64 (a3)) 3))) - (wrap64 (1 + (Int.tmod (wrap64 (a2)) 2))))) + (wrap64 ((Int.tmod (wrap64 (a1)) 3) - 1)))), .int .i64 (wrap64 (1 + (Int.tmod (wrap64 (a2)) 2))), .int .i64 (wrap64 (562949953421311 + (Int.tmod (wrap64 (a3)) 3)))] 37 (0, 0)) (by (with_reducible repeat (first | refine blk_drewN ?_ _ | refine blk_drew ?_ | refine blk_alloc ?_ _)); refine blk_put (cs := #[.int .i64 (wrap64 ((Int.tmod (wrap64 (a1)) 3) - 1)), .int .i64 (wrap64 (1 + (Int.tmod (wrap64 (a2)) 2))), .int .i64 (wrap64 (562949953421311 + (Int.tmod (wrap64 (a3)) 3)))]) ?_ 0 _ rfl; (with_reducible repeat (first | refine blk_drewN ?_ _ | refine blk_drew ?_ | refine blk_alloc ?_ _)); refine blk_put (cs := #[.int .i64 (wrap64 ((Int.tmod (wrap64 (a1)) 3) - 1)), .int .i64 (wrap64 (1 + (Int.tmod (wrap64 (a2)) 2))), .int .i64 0]) ?_ 2 _ rfl; (with_reducible repeat (first | refine blk_drewN ?_ _ | refine blk_drew ?_ | refine blk_alloc ?_ _)); refine blk_put (cs := #[.int .i64 (wrap64 ((Int.tmod (wrap64 (a1)) 3) - 1)), .int .i64 0, .int .i64 0]) ?_ 1 _ rfl; (with_reducible repeat (first | refine blk_drewN ?_ _ | refine blk_drew ?_ | refine blk_alloc ?_ _)); refine blk_put (cs := #[.int .i64 0, .int .i64 0, .int .i64 0]) ?_ 0 _ rfl; (with_reducible repeat (first | refine blk_drewN ?_ _ | refine blk_drew ?_ | refine blk_alloc ?_ _)); exact BK208.out)) : gb208 ≠ gb209)); have n12_ := Aside0.mk ((by rw [hg]; exact Nat.ne_of_gt (blk_lt (g := gb208) (o := .cells #[.int .i64 (wrap64 ((wrap64 ((wrap64 (562949953421311 + (Int.tmod (wrap64 (a3)) 3))) - (wrap64 (1 + (Int.tmod (wrap64 (a2)) 2))))) + (wrap64 ((Int.tmod (wrap64 (a1)) 3) - 1)))), .int .i64 (wrap64 (1 + (Int.tmod (wrap64 (a2)) 2))), .int .i64 (wrap64 (562949953421311 + (Int.tmod (wrap64 (a3)) 3)))] 37 (0, 0)) (by (with_reducible repeat (first | refine blk_drewN ?_ _ | refine blk_drew ?_ | refine blk_alloc ?_ _)); refine blk_put (cs := #[.int .i64 (wrap64 ((Int.tmod (wrap64 (a1)) 3) - 1)), .int .i64 (wrap64 (1 + (Int.tmod (wrap64 (a2)) 2))), .int .i64 (wrap64 (562949953421311 + (Int.tmod (wrap64 (a3)) 3)))]) ?_ 0 _ rfl; (with_reducible repeat (first | refine blk_drewN ?_ _ | refine blk_drew ?_ | refine blk_alloc ?_ _)); refine blk_put (cs := #[.int .i64 (wrap64 ((Int.tmod (wrap64 (a1)) 3) - 1)), .int .i64 (wrap64 (1 + (Int.tmod (wrap64 (a2)) 2))), .int .i64 0]) ?_ 2 _ rfl; (with_reducible repeat (first | refine blk_drewN ?_ _ | refine blk_drew ?_ | refine blk_alloc ?_ _)); refine blk_put (cs := #[.int .i64 (wrap64 ((Int.tmod (wrap64 (a1)) 3) - 1)), .int .i64 0, .int .i64 0]) ?_ 1 _ rfl; (with_reducible repeat (first | refine blk_drewN ?_ _ | refine blk_drew ?_ | refine blk_alloc ?_ _)); refine blk_put (cs := #[.int .i64 0, .int .i64 0, .int .i64 0]) ?_ 0 _ rfl; (with_reducible repeat (first | refine blk_drewN ?_ _ | refine blk_drew ?_ | refine blk_alloc ?_ _)); exact BK208.out)) : gb209 ≠ gb208)); clear BK205; clear BK207; clear BK208; clear HB; have BK205 := n0_; have BK207 := n1_; have BK208 := n2_; have HB := n3_; have BK209 := n4_; have GW209 := n5_; have GE209 := n6_; have NB205_209 := n7_; have NB209_205 := n8_; have NB207_209 := n9_; have NB209_207 := n10_; have NB208_209 := n11_; have NB209_208 := n12_; clear n0_ n1_ n2_ n3_ n4_ n5_ n6_ n7_ n8_ n9_ n10_ n11_ n12_; clear hb hbox hg; have hnb17 := NB209_205.out; have hnc17 := NB205_209.out; have hnb18 := NB209_207.out; have hnc18 := NB207_209.out; have hnb19 := NB209_208.out; have hnc19 := NB208_209.out; have hcz20_0 : w16.cell? ⟨gb209, 0, none⟩ = some (.int .i64 0) := (blk_cell BK209.out 0).trans rfl; have hcz20_1 : w16.cell? ⟨gb209, 1, none⟩ = some (.int .i64 0) := (blk_cell BK209.out 1).trans rfl; have hcz20_2 : w16.cell? ⟨gb209, 2, none⟩ = some (.int .i64 0) := (blk_cell BK209.out 2).trans rfl; have hfz20_0 := blk_frozen BK209.out 0; have hfz20_1 := blk_frozen BK209.out 1; have hfz20_2 := blk_frozen BK209.out 2; have hcz21_0 : w16.cell? ⟨gb208, 0, none⟩ = some (.int .i64 (wrap64 ((wrap64 ((wrap64 (562949953421311 + (Int.tmod (wrap64 (a3)) 3))) - (wrap64 (1 + (Int.tmod (wrap64 (a2)) 2))))) + (wrap64 ((Int.tmod (wrap64 (a1)) 3) - 1))))) := (blk_cell BK208.out 0).trans rfl; have hcz21_1 : w16.cell? ⟨gb208, 1, none⟩ = some (.int .i64 (wrap64 (1 + (Int.tmod (wrap64 (a2)) 2)))) := (blk_cell BK208.out 1).trans rfl; have hcz21_2 : w16.cell? ⟨gb208, 2, none⟩ = some (.int .i64 (wrap64 (562949953421311 + (Int.tmod (wrap64 (a3)) 3)))) := (blk_cell BK208.out 2).trans rfl; have hfz21_0 := blk_frozen BK208.out 0; have hfz21_1 := blk_frozen BK208.out 1; have hfz21_2 := blk_frozen BK208.out 2; have hcz22_0 : w16.cell? ⟨gb205, 0, none⟩ = some (.int .i64 a0_0) := (blk_cell BK205.out 0).trans rfl; have hcz22_1 : w16.cell? ⟨gb205, 1, none⟩ = some (.int .i64 a0_1) := (blk_cell BK205.out 1).trans rfl; have hcz22_2 : w16.cell? ⟨gb205, 2, none⟩ = some (.int .i64 a0_2) := (blk_cell BK205.out 2).trans rfl; have hfz22_0 := blk_frozen BK205.out 0; have hfz22_1 := blk_frozen BK205.out 1; have hfz22_2 := blk_frozen BK205.out 2; have hcz23_0 : w16.cell? ⟨gb207, 0, none⟩ = some (.int .i64 (wrap64 ((Int.tmod (wrap64 (a1)) 12) - 6))) := (blk_cell BK207.out 0).trans rfl; have hcz23_1 : w16.cell? ⟨gb207, 1, none⟩ = some (.int .i64 (wrap64 ((Int.tmod (wrap64 (a2)) 8) - 1))) := (blk_cell BK207.out 1).trans rfl; have hcz23_2 : w16.cell? ⟨gb207, 2, none⟩ = some (.int .i64 (Int.tmod (wrap64 (a3)) 10)) := (blk_cell BK207.out 2).trans rfl; have hfz23_0 := blk_frozen BK207.out 0; have hfz23_1 := blk_frozen BK207.out 1; have hfz23_2 := blk_frozen BK207.out 2) | ((with_reducible refine gate_dst (N := 59) rfl ?_); refine Kd.R_lit k37 _ 37 ?hg (N := 59) ?hd (xs := ([(⟨a0_0, a0_1, a0_2⟩ : S37), (⟨wrap64 ((Int.tmod (wrap64 (a1)) 12) - 6), wrap64 ((Int.tmod (wrap64 (a2)) 8) - 1), Int.tmod (wrap64 (a3)) 10⟩ : S37), (⟨wrap64 ((wrap64 ((wrap64 (562949953421311 + (Int.tmod (wrap64 (a3)) 3))) - (wrap64 (1 + (Int.tmod (wrap64 (a2)) 2))))) + (wrap64 ((Int.tmod (wrap64 (a1)) 3) - 1))), wrap64 (1 + (Int.tmod (wrap64 (a2)) 2)), wrap64 (562949953421311 + (Int.tmod (wrap64 (a3)) 3))⟩ : S37), (⟨wrap64 (-(wrap64 ((wrap64 ((wrap64 (562949953421311 + (Int.tmod (wrap64 (a3)) 3))) - (wrap64 (1 + (Int.tmod (wrap64 (a2)) 2))))) + (wrap64 ((Int.tmod (wrap64 (a1)) 3) - 1))))), wrap64 (1 + (Int.tmod (wrap64 (a2)) 2)), wrap64 (562949953421311 + (Int.tmod (wrap64 (a3)) 3))⟩ : S37)] : List (S37))) (inner := [.int .i64 a0_0, .int .i64 a0_1, .int .i64 a0_2, .int .i64 (wrap64 ((Int.tmod (wrap64 (a1)) 12) - 6)), .int .i64 (wrap64 ((Int.tmod (wrap64 (a2)) 8) - 1)), .int .i64 (Int.tmod (wrap64 (a3)) 10), .int .i64 (wrap64 ((wrap64 ((wrap64 (562949953421311 + (Int.tmod (wrap64 (a3)) 3))) - (wrap64 (1 + (Int.tmod (wrap64 (a2)) 2))))) + (wrap64 ((Int.tmod (wrap64 (a1)) 3) - 1)))), .int .i64 (wrap64 (1 + (Int.tmod (wrap64 (a2)) 2))), .int .i64 (wrap64 (562949953421311 + (Int.tmod (wrap64 (a3)) 3))), .int .i64 (wrap64 (-(wrap64 ((wrap64 ((wrap64 (562949953421311 + (Int.tmod (wrap64 (a3)) 3))) - (wrap64 (1 + (Int.tmod (wrap64 (a2)) 2))))) + (wrap64 ((Int.tmod (wrap64 (a1)) 3) - 1)))))), .int .i64 (wrap64 (1 + (Int.tmod (wrap64 (a2)) 2))), .int .i64 (wrap64 (562949953421311 + (Int.tmod (wrap64 (a3)) 3)))]) (ok := fun _ => True) (okp := fun _ => True) ?hr ?hp (fun _ hk => hk) trivial (Below.refl _ _) (Nat.le_refl _) (by simp) ?_; (case hd => rfl); (case hg => rfl); (case hr => first | (go_simp; done) | (go_simp; rfl)); (case hp => exact (Reps.c3 (show Kd.M k37 _ _ _ (⟨a0_0, a0_1, a0_2⟩ : S37) [.int .i64 a0_0, .int .i64 a0_1, .int .i64 a0_2] from (k37_mkM _ _ _ (⟨a0_0, a0_1, a0_2⟩ : S37) )) (Reps.c3 (show Kd.M k37 _ _ _ (⟨wrap64 ((Int.tmod (wrap64 (a1)) 12) - 6), wrap64 ((Int.tmod (wrap64 (a2)) 8) - 1), Int.tmod (wrap64 (a3)) 10⟩ : S37) [.int .i64 (wrap64 ((Int.tmod (wrap64 (a1)) 12) - 6)), .int .i64 (wrap64 ((Int.tmod (wrap64 (a2)) 8) - 1)), .int .i64 (Int.tmod (wrap64 (a3)) 10)] from (k37_mkM _ _ _ (⟨wrap64 ((Int.tmod (wrap64 (a1)) 12) - 6), wrap64 ((Int.tmod (wrap64 (a2)) 8) - 1), Int.tmod (wrap64 (a3)) 10⟩ : S37) )) (Reps.c3 (show Kd.M k37 _ _ _ (⟨wrap64 ((wrap64 ((wrap64 (562949953421311 + (Int.tmod (wrap64 (a3)) 3))) - (wrap64 (1 + (Int.tmod (wrap64 (a2)) 2))))) + (wrap64 ((Int.tmod (wrap64 (a1)) 3) - 1))), wrap64 (1 + (Int.tmod (wrap64 (a2)) 2)), wrap64 (562949953421311 + (Int.tmod (wrap64 (a3)) 3))⟩ : S37) [.int .i64 (wrap64 ((wrap64 ((wrap64 (562949953421311 + (Int.tmod (wrap64 (a3)) 3))) - (wrap64 (1 + (Int.tmod (wrap64 (a2)) 2))))) + (wrap64 ((Int.tmod (wrap64 (a1)) 3) - 1)))), .int .i64 (wrap64 (1 + (Int.tmod (wrap64 (a2)) 2))), .int .i64 (wrap64 (562949953421311 + (Int.tmod (wrap64 (a3)) 3)))] from (k37_mkM _ _ _ (⟨wrap64 ((wrap64 ((wrap64 (562949953421311 + (Int.tmod (wrap64 (a3)) 3))) - (wrap64 (1 + (Int.tmod (wrap64 (a2)) 2))))) + (wrap64 ((Int.tmod (wrap64 (a1)) 3) - 1))), wrap64 (1 + (Int.tmod (wrap64 (a2)) 2)), wrap64 (562949953421311 + (Int.tmod (wrap64 (a3)) 3))⟩ : S37) )) (Reps.c3 (show Kd.M k37 _ _ _ (⟨wrap64 (-(wrap64 ((wrap64 ((wrap64 (562949953421311 + (Int.tmod (wrap64 (a3)) 3))) - (wrap64 (1 + (Int.tmod (wrap64 (a2)) 2))))) + (wrap64 ((Int.tmod (wrap64 (a1)) 3) - 1))))), wrap64 (1 + (Int.tmod (wrap64 (a2)) 2)), wrap64 (562949953421311 + (Int.tmod (wrap64 (a3)) 3))⟩ : S37) [.int .i64 (wrap64 (-(wrap64 ((wrap64 ((wrap64 (562949953421311 + (Int.tmod (wrap64 (a3)) 3))) - (wrap64 (1 + (Int.tmod (wrap64 (a2)) 2))))) + (wrap64 ((Int.tmod (wrap64 (a1)) 3) - 1)))))), .int .i64 (wrap64 (1 + (Int.tmod (wrap64 (a2)) 2))), .int .i64 (wrap64 (562949953421311 + (Int.tmod (wrap64 (a3)) 3)))] from (k37_mkM _ _ _ (⟨wrap64 (-(wrap64 ((wrap64 ((wrap64 (562949953421311 + (Int.tmod (wrap64 (a3)) 3))) - (wrap64 (1 + (Int.tmod (wrap64 (a2)) 2))))) + (wrap64 ((Int.tmod (wrap64 (a1)) 3) - 1))))), wrap64 (1 + (Int.tmod (wrap64 (a2)) 2)), wrap64 (562949953421311 + (Int.tmod (wrap64 (a3)) 3))⟩ : S37) )) (Reps.none _ _)))))); intro v211 w24 ho25 hb hg_ hnew_; clear hg_ hnew_; (first | rw [← Ny210.out] at ho25 | (simp only [Int.reduceToNat] at ho25; rw [← Ny210.out] at ho25)); have n0_ := Aside0.mk (Kd.R_lower (Kd.R_newB (Kd.R_newB (Kd.R_newB (Kd.R_newB ho25 (g := gb205) (o := .cells #[.int .i64 a0_0, .int .i64 a0_1, .int .i64 a0_2] 37 (0, 0)) (by (with_reducible repeat (first | refine blk_drewN ?_ _ | refine blk_drew ?_ | refine blk_alloc ?_ _)); refine blk_far ?_ NB205_209.out _; (with_reducible repeat (first | refine blk_drewN ?_ _ | refine blk_drew ?_ | refine blk_alloc ?_ _)); refine blk_far ?_ NB205_209.out _; (with_reducible repeat (first | refine blk_drewN ?_ _ | refine blk_drew ?_ | refine blk_alloc ?_ _)); refine blk_far ?_ NB205_209.out _; (with_reducible repeat (first | refine blk_drewN ?_ _ | refine blk_drew ?_ | refine blk_alloc ?_ _)); refine blk_far ?_ NB205_209.out _; (with_reducible repeat (first | refine blk_drewN ?_ _ | refine blk_drew ?_ | refine blk_alloc ?_ _)); exact BK205.out)) (g := gb207) (o := .cells #[.int .i64 (wrap64 ((Int.tmod (wrap64 (a1)) 12) - 6)), .int .i64 (wrap64 ((Int.tmod (wrap64 (a2)) 8) - 1)), .int .i64 (Int.tmod (wrap64 (a3)) 10)] 37 (0, 0)) (by (with_reducible repeat (first | refine blk_drewN ?_ _ | refine blk_drew ?_ | refine blk_alloc ?_ _)); refine blk_far ?_ NB207_209.out _; (with_reducible repeat (first | refine blk_drewN ?_ _ | refine blk_drew ?_ | refine blk_alloc ?_ _)); refine blk_far ?_ NB207_209.out _; (with_reducible repeat (first | refine blk_drewN ?_ _ | refine blk_drew ?_ | refine blk_alloc ?_ _)); refine blk_far ?_ NB207_209.out _; (with_reducible repeat (first | refine blk_drewN ?_ _ | refine blk_drew ?_ | refine blk_alloc ?_ _)); refine blk_far ?_ NB207_209.out _; (with_reducible repeat (first | refine blk_drewN ?_ _ | refine blk_drew ?_ | refine blk_alloc ?_ _)); exact BK207.out)) (g := gb208) (o := .cells #[.int .i64 (wrap64 ((wrap64 ((wrap64 (562949953421311 + (Int.tmod (wrap64 (a3)) 3))) - (wrap64 (1 + (Int.tmod (wrap64 (a2)) 2))))) + (wrap64 ((Int.tmod (wrap64 (a1)) 3) - 1)))), .int .i64 (wrap64 (1 + (Int.tmod (wrap64 (a2)) 2))), .int .i64 (wrap64 (562949953421311 + (Int.tmod (wrap64 (a3)) 3)))] 37 (0, 0)) (by (with_reducible repeat (first | refine blk_drewN ?_ _ | refine blk_drew ?_ | refine blk_alloc ?_ _)); refine blk_far ?_ NB208_209.out _; (with_reducible repeat (first | refine blk_drewN ?_ _ | refine blk_drew ?_ | refine blk_alloc ?_ _)); refine blk_far ?_ NB208_209.out _; (with_reducible repeat (first | refine blk_drewN ?_ _ | refine blk_drew ?_ | refine blk_alloc ?_ _)); refine blk_far ?_ NB208_209.out _; (with_reducible repeat (first | refine blk_drewN ?_ _ | refine blk_drew ?_ | refine blk_alloc ?_ _)); refine blk_far ?_ NB208_209.out _; (with_reducible repeat (first | refine blk_drewN ?_ _ | refine blk_drew ?_ | refine blk_alloc ?_ _)); exact BK208.out)) (g := gb209) (o := .cells #[.int .i64 (wrap64 (-(wrap64 ((wrap64 ((wrap64 (562949953421311 + (Int.tmod (wrap64 (a3)) 3))) - (wrap64 (1 + (Int.tmod (wrap64 (a2)) 2))))) + (wrap64 ((Int.tmod (wrap64 (a1)) 3) - 1)))))), .int .i64 (wrap64 (1 + (Int.tmod (wrap64 (a2)) 2))), .int .i64 (wrap64 (562949953421311 + (Int.tmod (wrap64 (a3)) 3)))] 37 (0, 0)) (by (with_reducible repeat (first | refine blk_drewN ?_ _ | refine blk_drew ?_ | refine blk_alloc ?_ _)); refine blk_put (cs := #[.int .i64 (wrap64 ((wrap64 ((wrap64 (562949953421311 + (Int.tmod (wrap64 (a3)) 3))) - (wrap64 (1 + (Int.tmod (wrap64 (a2)) 2))))) + (wrap64 ((Int.tmod (wrap64 (a1)) 3) - 1)))), .int .i64 (wrap64 (1 + (Int.tmod (wrap64 (a2)) 2))), .int .i64 (wrap64 (562949953421311 + (Int.tmod (wrap64 (a3)) 3)))]) ?_ 0 _ rfl; (with_reducible repeat (first | refine blk_drewN ?_ _ | refine blk_drew ?_ | refine blk_alloc ?_ _)); refine blk_put (cs := #[.int .i64 (wrap64 ((wrap64 ((wrap64 (562949953421311 + (Int.tmod (wrap64 (a3)) 3))) - (wrap64 (1 + (Int.tmod (wrap64 (a2)) 2))))) + (wrap64 ((Int.tmod (wrap64 (a1)) 3) - 1)))), .int .i64 (wrap64 (1 + (Int.tmod (wrap64 (a2)) 2))), .int .i64 0]) ?_ 2 _ rfl; (with_reducible repeat (first | refine blk_drewN ?_ _ | refine blk_drew ?_ | refine blk_alloc ?_ _)); refine blk_put (cs := #[.int .i64 (wrap64 ((wrap64 ((wrap64 (562949953421311 + (Int.tmod (wrap64 (a3)) 3))) - (wrap64 (1 + (Int.tmod (wrap64 (a2)) 2))))) + (wrap64 ((Int.tmod (wrap64 (a1)) 3) - 1)))), .int .i64 0, .int .i64 0]) ?_ 1 _ rfl; (with_reducible repeat (first | refine blk_drewN ?_ _ | refine blk_drew ?_ | refine blk_alloc ?_ _)); refine blk_put (cs := #[.int .i64 0, .int .i64 0, .int .i64 0]) ?_ 0 _ rfl; (with_reducible repeat (first | refine blk_drewN ?_ _ | refine blk_drew ?_ | refine blk_alloc ?_ _)); exact BK209.out)) (below_size (by repeat (first | (with_reducible first | exact HB.out | apply below_alloc | apply pw_below_drewN | apply below_drew1 | refine below_set ?_ GE205.out | refine below_set ?_ GE207.out | refine below_set ?_ GE208.out | refine below_set ?_ GE209.out) | exact HB.out)))); have n1_ := Aside0.mk (blk_below (g := gb205) (o := .cells #[.int .i64 a0_0, .int .i64 a0_1, .int .i64 a0_2] 37 (0, 0)) (by (with_reducible repeat (first | refine blk_drewN ?_ _ | refine blk_drew ?_ | refine blk_alloc ?_ _)); refine blk_far ?_ NB205_209.out _; (with_reducible repeat (first | refine blk_drewN ?_ _ | refine blk_drew ?_ | refine blk_alloc ?_ _)); refine blk_far ?_ NB205_209.out _; (with_reducible repeat (first | refine blk_drewN ?_ _ | refine blk_drew ?_ | refine blk_alloc ?_ _)); refine blk_far ?_ NB205_209.out _; (with_reducible repeat (first | refine blk_drewN ?_ _ | refine blk_drew ?_ | refine blk_alloc ?_ _)); refine blk_far ?_ NB205_209.out _; (with_reducible repeat (first | refine blk_drewN ?_ _ | refine blk_drew ?_ | refine blk_alloc ?_ _)); exact BK205.out) hb); have n2_ := Aside0.mk (blk_below (g := gb207) (o := .cells #[.int .i64 (wrap64 ((Int.tmod (wrap64 (a1)) 12) - 6)), .int .i64 (wrap64 ((Int.tmod (wrap64 (a2)) 8) - 1)), .int .i64 (Int.tmod (wrap64 (a3)) 10)] 37 (0, 0)) (by (with_reducible repeat (first | refine blk_drewN ?_ _ | refine blk_drew ?_ | refine blk_alloc ?_ _)); refine blk_far ?_ NB207_209.out _; (with_reducible repeat (first | refine blk_drewN ?_ _ | refine blk_drew ?_ | refine blk_alloc ?_ _)); refine blk_far ?_ NB207_209.out _; (with_reducible repeat (first | refine blk_drewN ?_ _ | refine blk_drew ?_ | refine blk_alloc ?_ _)); refine blk_far ?_ NB207_209.out _; (with_reducible repeat (first | refine blk_drewN ?_ _ | refine blk_drew ?_ | refine blk_alloc ?_ _)); refine blk_far ?_ NB207_209.out _; (with_reducible repeat (first | refine blk_drewN ?_ _ | refine blk_drew ?_ | refine blk_alloc ?_ _)); exact BK207.out) hb); have n3_ := Aside0.mk (blk_below (g := gb208) (o := .cells #[.int .i64 (wrap64 ((wrap64 ((wrap64 (562949953421311 + (Int.tmod (wrap64 (a3)) 3))) - (wrap64 (1 + (Int.tmod (wrap64 (a2)) 2))))) + (wrap64 ((Int.tmod (wrap64 (a1)) 3) - 1)))), .int .i64 (wrap64 (1 + (Int.tmod (wrap64 (a2)) 2))), .int .i64 (wrap64 (562949953421311 + (Int.tmod (wrap64 (a3)) 3)))] 37 (0, 0)) (by (with_reducible repeat (first | refine blk_drewN ?_ _ | refine blk_drew ?_ | refine blk_alloc ?_ _)); refine blk_far ?_ NB208_209.out _; (with_reducible repeat (first | refine blk_drewN ?_ _ | refine blk_drew ?_ | refine blk_alloc ?_ _)); refine blk_far ?_ NB208_209.out _; (with_reducible repeat (first | refine blk_drewN ?_ _ | refine blk_drew ?_ | refine blk_alloc ?_ _)); refine blk_far ?_ NB208_209.out _; (with_reducible repeat (first | refine blk_drewN ?_ _ | refine blk_drew ?_ | refine blk_alloc ?_ _)); refine blk_far ?_ NB208_209.out _; (with_reducible repeat (first | refine blk_drewN ?_ _ | refine blk_drew ?_ | refine blk_alloc ?_ _)); exact BK208.out) hb); have n4_ := Aside0.mk (blk_below (g := gb209) (o := .cells #[.int .i64 (wrap64 (-(wrap64 ((wrap64 ((wrap64 (562949953421311 + (Int.tmod (wrap64 (a3)) 3))) - (wrap64 (1 + (Int.tmod (wrap64 (a2)) 2))))) + (wrap64 ((Int.tmod (wrap64 (a1)) 3) - 1)))))), .int .i64 (wrap64 (1 + (Int.tmod (wrap64 (a2)) 2))), .int .i64 (wrap64 (562949953421311 + (Int.tmod (wrap64 (a3)) 3)))] 37 (0, 0)) (by (with_reducible repeat (first | refine blk_drewN ?_ _ | refine blk_drew ?_ | refine blk_alloc ?_ _)); refine blk_put (cs := #[.int .i64 (wrap64 ((wrap64 ((wrap64 (562949953421311 + (Int.tmod (wrap64 (a3)) 3))) - (wrap64 (1 + (Int.tmod (wrap64 (a2)) 2))))) + (wrap64 ((Int.tmod (wrap64 (a1)) 3) - 1)))), .int .i64 (wrap64 (1 + (Int.tmod (wrap64 (a2)) 2))), .int .i64 (wrap64 (562949953421311 + (Int.tmod (wrap64 (a3)) 3)))]) ?_ 0 _ rfl; (with_reducible repeat (first | refine blk_drewN ?_ _ | refine blk_drew ?_ | refine blk_alloc ?_ _)); refine blk_put (cs := #[.int .i64 (wrap64 ((wrap64 ((wrap64 (562949953421311 + (Int.tmod (wrap64 (a3)) 3))) - (wrap64 (1 + (Int.tmod (wrap64 (a2)) 2))))) + (wrap64 ((Int.tmod (wrap64 (a1)) 3) - 1)))), .int .i64 (wrap64 (1 + (Int.tmod (wrap64 (a2)) 2))), .int .i64 0]) ?_ 2 _ rfl; (with_reducible repeat (first | refine blk_drewN ?_ _ | refine blk_drew ?_ | refine blk_alloc ?_ _)); refine blk_put (cs := #[.int .i64 (wrap64 ((wrap64 ((wrap64 (562949953421311 + (Int.tmod (wrap64 (a3)) 3))) - (wrap64 (1 + (Int.tmod (wrap64 (a2)) 2))))) + (wrap64 ((Int.tmod (wrap64 (a1)) 3) - 1)))), .int .i64 0, .int .i64 0]) ?_ 1 _ rfl; (with_reducible repeat (first | refine blk_drewN ?_ _ | refine blk_drew ?_ | refine blk_alloc ?_ _)); refine blk_put (cs := #[.int .i64 0, .int .i64 0, .int .i64 0]) ?_ 0 _ rfl; (with_reducible repeat (first | refine blk_drewN ?_ _ | refine blk_drew ?_ | refine blk_alloc ?_ _)); exact BK209.out) hb); have n5_ := Aside0.mk (below_step (by repeat (first | (with_reducible first | exact HB.out | apply below_alloc | apply pw_below_drewN | apply below_drew1 | refine below_set ?_ GE205.out | refine below_set ?_ GE207.out | refine below_set ?_ GE208.out | refine below_set ?_ GE209.out) | exact HB.out)) hb); clear BK205; clear BK207; clear BK208; clear BK209; clear HB; have HO212 := n0_; have BK205 := n1_; have BK207 := n2_; have BK208 := n3_; have BK209 := n4_; have HB := n5_; clear n0_ n1_ n2_ n3_ n4_ n5_; clear hb ho25))
    go_loopg [13] k (fun kq v13 w' => ∃ (x13_1 : Int), v13 = .int .i64 x13_1 ∧ Aside0 (flagstonelaw39_ScoreValid.l0 kq y210 x13_1 = some r) ∧ Aside0 (kq ≤ k) ∧ Aside0 (Kd.R k37 37 w' w.heap.size (fun k_ => k_ ≠ gb205 ∧ k_ ≠ gb207 ∧ k_ ≠ gb208 ∧ k_ ≠ gb209) v211 y210) ∧ Aside0 (w'.heap[gb205]? = some (.cells #[.int .i64 a0_0, .int .i64 a0_1, .int .i64 a0_2] 37 (0, 0))) ∧ Aside0 (w'.heap[gb207]? = some (.cells #[.int .i64 (wrap64 ((Int.tmod (wrap64 (a1)) 12) - 6)), .int .i64 (wrap64 ((Int.tmod (wrap64 (a2)) 8) - 1)), .int .i64 (Int.tmod (wrap64 (a3)) 10)] 37 (0, 0))) ∧ Aside0 (w'.heap[gb208]? = some (.cells #[.int .i64 (wrap64 ((wrap64 ((wrap64 (562949953421311 + (Int.tmod (wrap64 (a3)) 3))) - (wrap64 (1 + (Int.tmod (wrap64 (a2)) 2))))) + (wrap64 ((Int.tmod (wrap64 (a1)) 3) - 1)))), .int .i64 (wrap64 (1 + (Int.tmod (wrap64 (a2)) 2))), .int .i64 (wrap64 (562949953421311 + (Int.tmod (wrap64 (a3)) 3)))] 37 (0, 0))) ∧ Aside0 (w'.heap[gb209]? = some (.cells #[.int .i64 (wrap64 (-(wrap64 ((wrap64 ((wrap64 (562949953421311 + (Int.tmod (wrap64 (a3)) 3))) - (wrap64 (1 + (Int.tmod (wrap64 (a2)) 2))))) + (wrap64 ((Int.tmod (wrap64 (a1)) 3) - 1)))))), .int .i64 (wrap64 (1 + (Int.tmod (wrap64 (a2)) 2))), .int .i64 (wrap64 (562949953421311 + (Int.tmod (wrap64 (a3)) 3)))] 37 (0, 0))) ∧ Aside0 (Below w.heap.size w w'))
    case atStart => exact ⟨(0), (by first | rfl | (simp; done) | (simp [*]; done) | exact congrArg (Value.int _) (by unfold wrap64; omega)), H', ⟨Nat.le_refl _⟩, ⟨by (with_reducible repeat (first | apply Kd.R_alloc | apply Kd.R_drewN | apply Kd.R_drew)); exact Kd.R_mono HO212.out (fun _ hk => ⟨hk.1.1.1.2, ⟨hk.1.1.2, ⟨hk.1.2, hk.2⟩⟩⟩)⟩, ⟨by (with_reducible repeat (first | refine blk_drewN ?_ _ | refine blk_drew ?_ | refine blk_alloc ?_ _)); exact BK205.out⟩, ⟨by (with_reducible repeat (first | refine blk_drewN ?_ _ | refine blk_drew ?_ | refine blk_alloc ?_ _)); exact BK207.out⟩, ⟨by (with_reducible repeat (first | refine blk_drewN ?_ _ | refine blk_drew ?_ | refine blk_alloc ?_ _)); exact BK208.out⟩, ⟨by (with_reducible repeat (first | refine blk_drewN ?_ _ | refine blk_drew ?_ | refine blk_alloc ?_ _)); exact BK209.out⟩, ⟨by repeat (first | (with_reducible first | exact HB.out | apply below_alloc | apply pw_below_drewN | apply below_drew1 | refine below_set ?_ GE205.out | refine below_set ?_ GE207.out | refine below_set ?_ GE208.out | refine below_set ?_ GE209.out) | exact HB.out)⟩⟩
    case round =>
      clear H'
      try clear c1
      try clear p2
      try clear c3
      try clear c5
      try clear c6
      try clear p6
      try clear c10
      try clear c11
      try clear c13
      try clear c14
      try clear c17
      try clear c18
      try clear c19
      try clear hcz11_0
      try clear hcz11_1
      try clear hcz11_2
      try clear hcz15_0
      try clear hcz15_1
      try clear hcz15_2
      try clear hcz20_0
      try clear hcz20_1
      try clear hcz20_2
      try clear hcz21_0
      try clear hcz21_1
      try clear hcz21_2
      try clear hcz22_0
      try clear hcz22_1
      try clear hcz22_2
      try clear hcz23_0
      try clear hcz23_1
      try clear hcz23_2
      try clear hfz11_0
      try clear hfz11_1
      try clear hfz11_2
      try clear hfz15_0
      try clear hfz15_1
      try clear hfz15_2
      try clear hfz20_0
      try clear hfz20_1
      try clear hfz20_2
      try clear hfz21_0
      try clear hfz21_1
      try clear hfz21_2
      try clear hfz22_0
      try clear hfz22_1
      try clear hfz22_2
      try clear hfz23_0
      try clear hfz23_1
      try clear hfz23_2
      obtain ⟨x13_1, rfl, HA, HK1, HO_12, BK205, BK207, BK208, BK209, HB⟩ := hrel
      cases gk with
      | zero => exact absurd HA.out (by simp [flagstonelaw39_ScoreValid.l0])
      | succ k1 =>
        have H := HA.out
        clear HA
        simp only [flagstonelaw39_ScoreValid.l0] at H
        by_cases c26 : x13_1 < (y210.length : Int)
        · rw [if_pos c26] at H
          have c26b0 : decide (x13_1 < (y210.length : Int)) = true := decide_eq_true c26
          clear c26
          by_cases c27 : 0 ≤ x13_1
          · rw [if_pos c27] at H
            have c27b0 : decide (0 ≤ x13_1) = true := decide_eq_true c27
            clear c27
            replace H := Option.bind_eq_some_iff.mp H
            obtain ⟨t214, A280, H⟩ := H
            replace H : ((flagstoneref39_Valid.f ((rd_T37 y210 x13_1).f0) ((rd_T37 y210 x13_1).f1) ((rd_T37 y210 x13_1).f2)).bind fun t216 => (if (t214 != t216) = true then (some false) else (flagstonelaw39_ScoreValid.l0 k1 y210 (wrap64 (x13_1 + 1))))) = some r := H
            have A28 := Aside0.mk A280
            clear A280
            replace H := Option.bind_eq_some_iff.mp H
            obtain ⟨t216, A290, H⟩ := H
            replace H : (if (t214 != t216) = true then (some false) else (flagstonelaw39_ScoreValid.l0 k1 y210 (wrap64 (x13_1 + 1)))) = some r := H
            have A29 := Aside0.mk A290
            clear A290
            by_cases c30 : (t214 != t216) = true
            · rw [if_pos c30] at H
              have c30b0 : (t214 != t216) = true := c30
              (try (have c30b1 : decide (t214 = t216) = false := by simpa using c30))
              (try (have c30b2 : (t214 == t216) = false := by simpa using c30))
              (try (have c30b3 : ¬ (t214 = t216) := by simpa using c30))
              clear c30
              obtain rfl := Option.some.inj H
              obtain ⟨Ao31, co31, eo31⟩ := Kd.R_slice HO_12.out
              subst eo31
              try go_wp2
              have n0_ := Aside0.mk (Kd.R_drew HO_12.out)
              have n1_ := Aside0.mk (blk_drew BK205.out)
              have n2_ := Aside0.mk (blk_drew BK207.out)
              have n3_ := Aside0.mk (blk_drew BK208.out)
              have n4_ := Aside0.mk (blk_drew BK209.out)
              have n5_ := Aside0.mk (below_drew1 HB.out)
              clear HO_12
              clear BK205
              clear BK207
              clear BK208
              clear BK209
              clear HB
              have HO_12 := n0_
              have BK205 := n1_
              have BK207 := n2_
              have BK208 := n3_
              have BK209 := n4_
              have HB := n5_
              clear n0_ n1_ n2_ n3_ n4_ n5_
              have p213 : 0 ≤ (x13_1 : Int) := of_decide_eq_true (by first | (with_reducible assumption) | assumption)
              have q213 : x13_1 < (y210.length : Int) := of_decide_eq_true (by first | (with_reducible assumption) | assumption)
              obtain ⟨ad213, e213, hx213_0, hx213_1, hx213_2⟩ := at_T37 (Kd.R_reads' HO_12.out).2.2 x13_1 p213 q213
              cases e213
              replace p213 := eq_true p213
              replace q213 := eq_true q213
              have p215 : 0 ≤ (x13_1 : Int) := of_decide_eq_true (by first | (with_reducible assumption) | assumption)
              have q215 : x13_1 < (y210.length : Int) := of_decide_eq_true (by first | (with_reducible assumption) | assumption)
              obtain ⟨ad215, e215, hx215_0, hx215_1, hx215_2⟩ := at_T37 (Kd.R_reads' HO_12.out).2.2 x13_1 p215 q215
              obtain rfl : ad213 = ad215 := (by injection e215)
              replace p215 := eq_true p215
              replace q215 := eq_true q215
              refine start_ (n := 11) (S := fun w' => w'.cell? (ad213.add ((x13_1).toNat * 3)) = some (.int .i64 ((rd_T37 y210 x13_1).f0)) ∧ w'.cell? ⟨(ad213.add ((x13_1).toNat * 3)).block, (ad213.add ((x13_1).toNat * 3)).off + 1, none⟩ = some (.int .i64 ((rd_T37 y210 x13_1).f1)) ∧ w'.cell? ⟨(ad213.add ((x13_1).toNat * 3)).block, (ad213.add ((x13_1).toNat * 3)).off + 2, none⟩ = some (.int .i64 ((rd_T37 y210 x13_1).f2)) ∧ w'.cell? (ad213.add ((x13_1).toNat * 3)) = some (.int .i64 ((rd_T37 y210 x13_1).f0)) ∧ w'.cell? ⟨(ad213.add ((x13_1).toNat * 3)).block, (ad213.add ((x13_1).toNat * 3)).off + 1, none⟩ = some (.int .i64 ((rd_T37 y210 x13_1).f1)) ∧ w'.cell? ⟨(ad213.add ((x13_1).toNat * 3)).block, (ad213.add ((x13_1).toNat * 3)).off + 2, none⟩ = some (.int .i64 ((rd_T37 y210 x13_1).f2))) (ds := []) #[false, false, false, false, false, false, false, false, false, false, false] (by kernel_rfl) rfl rfl ⟨hx213_0, hx213_1, hx213_2, hx215_0, hx215_1, hx215_2⟩ (fun hHeld => ?_); refine with_tabW flagstonelaw39_ScoreValid.tab12 flagstonelaw39_ScoreValid.bits12 (fun HT_ HW_ => ?_)
              generalize wr.drew = w32 at HO_12 BK205 BK207 BK208 BK209 HB hx213_0 hx213_1 hx213_2 hx215_0 hx215_1 hx215_2 hHeld ⊢
              refine pure_ (i := 0) (N := some 66) (v := ?_) (a' := ?_) #[true, false, false, false, false, false, false, false, false, false, false] rfl rfl (any_of HT_.out (by kernel_rfl)) (fun _ _ _ h => h) (Or.inl ⟨by rfl, ?_⟩) ?_ ?_
              rotate_left
              · intro w'
                go_simp
                with_reducible rfl
              rotate_left
              · simp only [Act.put, List.setIfInBounds_toArray, List.set_cons_zero, List.set_cons_succ, i64_w, i32_w]
                rfl
              refine pure_ (i := 1) (N := some 67) (v := ?_) (a' := ?_) #[true, true, false, false, false, false, false, false, false, false, false] rfl rfl (any_of HT_.out (by kernel_rfl)) (fun _ _ _ h => h) (Or.inl ⟨by rfl, ?_⟩) ?_ ?_
              rotate_left
              · intro w'
                go_simp
                with_reducible rfl
              rotate_left
              · simp only [Act.put, List.setIfInBounds_toArray, List.set_cons_zero, List.set_cons_succ, i64_w, i32_w]
                rfl
              refine pure_ (i := 2) (N := some 68) (v := ?_) (a' := ?_) #[true, true, true, false, false, false, false, false, false, false, false] rfl rfl (any_of HT_.out (by kernel_rfl)) (fun _ _ _ h => h) (Or.inl ⟨by rfl, ?_⟩) ?_ ?_
              rotate_left
              · intro w'
                go_simp
                with_reducible rfl
              rotate_left
              · simp only [Act.put, List.setIfInBounds_toArray, List.set_cons_zero, List.set_cons_succ, i64_w, i32_w]
                rfl
              refine pure_ (i := 5) (N := some 71) (v := ?_) (a' := ?_) #[true, true, true, false, false, true, false, false, false, false, false] rfl rfl (any_of HT_.out (by kernel_rfl)) (fun _ _ _ h => h) (Or.inl ⟨by rfl, ?_⟩) ?_ ?_
              rotate_left
              · intro w'
                go_simp
                with_reducible rfl
              rotate_left
              · simp only [Act.put, List.setIfInBounds_toArray, List.set_cons_zero, List.set_cons_succ, i64_w, i32_w]
                rfl
              refine pure_ (i := 6) (N := some 72) (v := ?_) (a' := ?_) #[true, true, true, false, false, true, true, false, false, false, false] rfl rfl (any_of HT_.out (by kernel_rfl)) (fun _ _ _ h => h) (Or.inl ⟨by rfl, ?_⟩) ?_ ?_
              rotate_left
              · intro w'
                go_simp
                with_reducible rfl
              rotate_left
              · simp only [Act.put, List.setIfInBounds_toArray, List.set_cons_zero, List.set_cons_succ, i64_w, i32_w]
                rfl
              refine pure_ (i := 7) (N := some 73) (v := ?_) (a' := ?_) #[true, true, true, false, false, true, true, true, false, false, false] rfl rfl (any_of HT_.out (by kernel_rfl)) (fun _ _ _ h => h) (Or.inl ⟨by rfl, ?_⟩) ?_ ?_
              rotate_left
              · intro w'
                go_simp
                with_reducible rfl
              rotate_left
              · simp only [Act.put, List.setIfInBounds_toArray, List.set_cons_zero, List.set_cons_succ, i64_w, i32_w]
                rfl
              refine take_ (i := 3) (N := some 69) (v := ?_) (a' := ?_) #[true, true, true, true, false, true, true, true, false, false, false] rfl rfl (take_ofW HT_.out HW_.out (by kernel_rfl)) (fun _ _ _ h => h) (Or.inl ⟨by rfl, ?_⟩) hHeld ?_ ?_
              rotate_left
              · rintro w' ⟨s0, s1, s2, s3, s4, s5⟩
                go_simp
                with_reducible rfl
              rotate_left
              · simp only [Act.put, List.setIfInBounds_toArray, List.set_cons_zero, List.set_cons_succ, i64_w, i32_w]
                rfl
              refine take_ (i := 8) (N := some 74) (v := ?_) (a' := ?_) #[true, true, true, true, false, true, true, true, true, false, false] rfl rfl (take_ofW HT_.out HW_.out (by kernel_rfl)) (fun _ _ _ h => h) (Or.inl ⟨by rfl, ?_⟩) hHeld ?_ ?_
              rotate_left
              · rintro w' ⟨s0, s1, s2, s3, s4, s5⟩
                go_simp
                with_reducible rfl
              rotate_left
              · simp only [Act.put, List.setIfInBounds_toArray, List.set_cons_zero, List.set_cons_succ, i64_w, i32_w]
                rfl
              refine one_ (i := 4) (N := some 70) #[true, true, true, true, true, true, true, true, true, false, false] rfl rfl (one_of HT_.out (by kernel_rfl)) (by decide) (fun K hK => ?_)
              refine goes_ Try.func17 (by kernel_rfl) rfl #[.agg #[.int .i64 ((rd_T37 y210 x13_1).f0), .int .i64 ((rd_T37 y210 x13_1).f1), .int .i64 ((rd_T37 y210 x13_1).f2)]] (by rfl) rfl rfl (by (try simp only [List.map_toArray, List.map_cons, List.map_nil]); first | done | rfl | (simp only [List.length_drop, List.length_take]; rfl)) ?_
              with_reducible refine (score_Valid.calls ((rd_T37 y210 x13_1).f0) ((rd_T37 y210 x13_1).f1) ((rd_T37 y210 x13_1).f2) t214 _ A28.out).mono ?_
              rintro e w33 ⟨rfl, hb⟩
              have HS0_ := (hb.cell (World.block_lt_of_cell? _ _ (hHeld.1))).trans (hHeld.1)
              have HS1_ := (hb.cell (World.block_lt_of_cell? _ _ (hHeld.2.1))).trans (hHeld.2.1)
              have HS2_ := (hb.cell (World.block_lt_of_cell? _ _ (hHeld.2.2.1))).trans (hHeld.2.2.1)
              have HS3_ := (hb.cell (World.block_lt_of_cell? _ _ (hHeld.2.2.2.1))).trans (hHeld.2.2.2.1)
              have HS4_ := (hb.cell (World.block_lt_of_cell? _ _ (hHeld.2.2.2.2.1))).trans (hHeld.2.2.2.2.1)
              have HS5_ := (hb.cell (World.block_lt_of_cell? _ _ (hHeld.2.2.2.2.2))).trans (hHeld.2.2.2.2.2)
              refine ⟨_, rfl, ?_⟩
              have n0_ := Aside0.mk (Kd.R_below (by (with_reducible repeat (first | apply Kd.R_alloc | apply Kd.R_drewN | apply Kd.R_drew)); exact HO_12.out) hb)
              have n1_ := Aside0.mk (blk_below (g := gb205) (o := .cells #[.int .i64 a0_0, .int .i64 a0_1, .int .i64 a0_2] 37 (0, 0)) (by (with_reducible repeat (first | refine blk_drewN ?_ _ | refine blk_drew ?_ | refine blk_alloc ?_ _)); exact BK205.out) hb)
              have n2_ := Aside0.mk (blk_below (g := gb207) (o := .cells #[.int .i64 (wrap64 ((Int.tmod (wrap64 (a1)) 12) - 6)), .int .i64 (wrap64 ((Int.tmod (wrap64 (a2)) 8) - 1)), .int .i64 (Int.tmod (wrap64 (a3)) 10)] 37 (0, 0)) (by (with_reducible repeat (first | refine blk_drewN ?_ _ | refine blk_drew ?_ | refine blk_alloc ?_ _)); exact BK207.out) hb)
              have n3_ := Aside0.mk (blk_below (g := gb208) (o := .cells #[.int .i64 (wrap64 ((wrap64 ((wrap64 (562949953421311 + (Int.tmod (wrap64 (a3)) 3))) - (wrap64 (1 + (Int.tmod (wrap64 (a2)) 2))))) + (wrap64 ((Int.tmod (wrap64 (a1)) 3) - 1)))), .int .i64 (wrap64 (1 + (Int.tmod (wrap64 (a2)) 2))), .int .i64 (wrap64 (562949953421311 + (Int.tmod (wrap64 (a3)) 3)))] 37 (0, 0)) (by (with_reducible repeat (first | refine blk_drewN ?_ _ | refine blk_drew ?_ | refine blk_alloc ?_ _)); exact BK208.out) hb)
              have n4_ := Aside0.mk (blk_below (g := gb209) (o := .cells #[.int .i64 (wrap64 (-(wrap64 ((wrap64 ((wrap64 (562949953421311 + (Int.tmod (wrap64 (a3)) 3))) - (wrap64 (1 + (Int.tmod (wrap64 (a2)) 2))))) + (wrap64 ((Int.tmod (wrap64 (a1)) 3) - 1)))))), .int .i64 (wrap64 (1 + (Int.tmod (wrap64 (a2)) 2))), .int .i64 (wrap64 (562949953421311 + (Int.tmod (wrap64 (a3)) 3)))] 37 (0, 0)) (by (with_reducible repeat (first | refine blk_drewN ?_ _ | refine blk_drew ?_ | refine blk_alloc ?_ _)); exact BK209.out) hb)
              have n5_ := Aside0.mk (below_step (by repeat (first | (with_reducible first | exact HB.out | apply below_alloc | apply pw_below_drewN | apply below_drew1 | refine below_set ?_ GE205.out | refine below_set ?_ GE207.out | refine below_set ?_ GE208.out | refine below_set ?_ GE209.out) | exact HB.out)) hb)
              clear HO_12
              clear BK205
              clear BK207
              clear BK208
              clear BK209
              clear HB
              have HO_12 := n0_
              have BK205 := n1_
              have BK207 := n2_
              have BK208 := n3_
              have BK209 := n4_
              have HB := n5_
              clear n0_ n1_ n2_ n3_ n4_ n5_
              (try clear hb)
              (try clear hb2)
              (try clear hk)
              (try clear hi)
              refine hK.out _ _ ⟨HS0_, HS1_, HS2_, HS3_, HS4_, HS5_⟩ (fun hHeld => ?_)
              clear hK K
              refine norm_ (a' := ?_) ?_ ?_
              rotate_left
              · show Act.put _ (some 70) _ = _
                simp only [Act.put, List.setIfInBounds_toArray, List.set_cons_zero, List.set_cons_succ, i64_w, i32_w]
                rfl
              refine one_ (i := 9) (N := some 75) #[true, true, true, true, true, true, true, true, true, true, false] rfl rfl (one_of HT_.out (by kernel_rfl)) (by decide) (fun K hK => ?_)
              refine goes_ Try.func18 (by kernel_rfl) rfl #[.agg #[.int .i64 ((rd_T37 y210 x13_1).f0), .int .i64 ((rd_T37 y210 x13_1).f1), .int .i64 ((rd_T37 y210 x13_1).f2)]] (by rfl) rfl rfl (by (try simp only [List.map_toArray, List.map_cons, List.map_nil]); first | done | rfl | (simp only [List.length_drop, List.length_take]; rfl)) ?_
              with_reducible refine (flagstoneref39_Valid.calls ((rd_T37 y210 x13_1).f0) ((rd_T37 y210 x13_1).f1) ((rd_T37 y210 x13_1).f2) t216 _ A29.out).mono ?_
              rintro e w34 ⟨rfl, hb⟩
              have HS0_ := (hb.cell (World.block_lt_of_cell? _ _ (hHeld.1))).trans (hHeld.1)
              have HS1_ := (hb.cell (World.block_lt_of_cell? _ _ (hHeld.2.1))).trans (hHeld.2.1)
              have HS2_ := (hb.cell (World.block_lt_of_cell? _ _ (hHeld.2.2.1))).trans (hHeld.2.2.1)
              have HS3_ := (hb.cell (World.block_lt_of_cell? _ _ (hHeld.2.2.2.1))).trans (hHeld.2.2.2.1)
              have HS4_ := (hb.cell (World.block_lt_of_cell? _ _ (hHeld.2.2.2.2.1))).trans (hHeld.2.2.2.2.1)
              have HS5_ := (hb.cell (World.block_lt_of_cell? _ _ (hHeld.2.2.2.2.2))).trans (hHeld.2.2.2.2.2)
              refine ⟨_, rfl, ?_⟩
              have n0_ := Aside0.mk (Kd.R_below (by (with_reducible repeat (first | apply Kd.R_alloc | apply Kd.R_drewN | apply Kd.R_drew)); exact HO_12.out) hb)
              have n1_ := Aside0.mk (blk_below (g := gb205) (o := .cells #[.int .i64 a0_0, .int .i64 a0_1, .int .i64 a0_2] 37 (0, 0)) (by (with_reducible repeat (first | refine blk_drewN ?_ _ | refine blk_drew ?_ | refine blk_alloc ?_ _)); exact BK205.out) hb)
              have n2_ := Aside0.mk (blk_below (g := gb207) (o := .cells #[.int .i64 (wrap64 ((Int.tmod (wrap64 (a1)) 12) - 6)), .int .i64 (wrap64 ((Int.tmod (wrap64 (a2)) 8) - 1)), .int .i64 (Int.tmod (wrap64 (a3)) 10)] 37 (0, 0)) (by (with_reducible repeat (first | refine blk_drewN ?_ _ | refine blk_drew ?_ | refine blk_alloc ?_ _)); exact BK207.out) hb)
              have n3_ := Aside0.mk (blk_below (g := gb208) (o := .cells #[.int .i64 (wrap64 ((wrap64 ((wrap64 (562949953421311 + (Int.tmod (wrap64 (a3)) 3))) - (wrap64 (1 + (Int.tmod (wrap64 (a2)) 2))))) + (wrap64 ((Int.tmod (wrap64 (a1)) 3) - 1)))), .int .i64 (wrap64 (1 + (Int.tmod (wrap64 (a2)) 2))), .int .i64 (wrap64 (562949953421311 + (Int.tmod (wrap64 (a3)) 3)))] 37 (0, 0)) (by (with_reducible repeat (first | refine blk_drewN ?_ _ | refine blk_drew ?_ | refine blk_alloc ?_ _)); exact BK208.out) hb)
              have n4_ := Aside0.mk (blk_below (g := gb209) (o := .cells #[.int .i64 (wrap64 (-(wrap64 ((wrap64 ((wrap64 (562949953421311 + (Int.tmod (wrap64 (a3)) 3))) - (wrap64 (1 + (Int.tmod (wrap64 (a2)) 2))))) + (wrap64 ((Int.tmod (wrap64 (a1)) 3) - 1)))))), .int .i64 (wrap64 (1 + (Int.tmod (wrap64 (a2)) 2))), .int .i64 (wrap64 (562949953421311 + (Int.tmod (wrap64 (a3)) 3)))] 37 (0, 0)) (by (with_reducible repeat (first | refine blk_drewN ?_ _ | refine blk_drew ?_ | refine blk_alloc ?_ _)); exact BK209.out) hb)
              have n5_ := Aside0.mk (below_step (by repeat (first | (with_reducible first | exact HB.out | apply below_alloc | apply pw_below_drewN | apply below_drew1 | refine below_set ?_ GE205.out | refine below_set ?_ GE207.out | refine below_set ?_ GE208.out | refine below_set ?_ GE209.out) | exact HB.out)) hb)
              clear HO_12
              clear BK205
              clear BK207
              clear BK208
              clear BK209
              clear HB
              have HO_12 := n0_
              have BK205 := n1_
              have BK207 := n2_
              have BK208 := n3_
              have BK209 := n4_
              have HB := n5_
              clear n0_ n1_ n2_ n3_ n4_ n5_
              (try clear hb)
              (try clear hb2)
              (try clear hk)
              (try clear hi)
              refine hK.out _ _ ⟨HS0_, HS1_, HS2_, HS3_, HS4_, HS5_⟩ (fun hHeld => ?_)
              clear hK K
              refine norm_ (a' := ?_) ?_ ?_
              rotate_left
              · show Act.put _ (some 75) _ = _
                simp only [Act.put, List.setIfInBounds_toArray, List.set_cons_zero, List.set_cons_succ, i64_w, i32_w]
                rfl
              refine pure_ (i := 10) (N := some 76) (v := ?_) (a' := ?_) #[true, true, true, true, true, true, true, true, true, true, true] rfl rfl (any_of HT_.out (by kernel_rfl)) (fun _ _ _ h => h) (Or.inl ⟨by rfl, ?_⟩) ?_ ?_
              rotate_left
              · intro w'
                go_simp
                with_reducible rfl
              rotate_left
              · simp only [Act.put, List.setIfInBounds_toArray, List.set_cons_zero, List.set_cons_succ, i64_w, i32_w]
                rfl
              refine done_ (done_of HT_.out (by kernel_rfl)) ?_
              try go_wp2
              go_ret
              exact ⟨by first | rfl | (simp [errW_none, errW_some] <;> rfl) | (simp [*, errW_none, errW_some] <;> rfl), by repeat (first | (with_reducible first | exact HB.out | apply below_alloc | apply pw_below_drewN | apply below_drew1 | refine below_set ?_ GE205.out | refine below_set ?_ GE207.out | refine below_set ?_ GE208.out | refine below_set ?_ GE209.out) | exact HB.out)⟩
            · rw [if_neg c30] at H
              have c30b0 : (t214 != t216) = false := by simpa using c30
              (try (have c30b1 : decide (t214 = t216) = true := by simpa using c30))
              (try (have c30b2 : (t214 == t216) = true := by simpa using c30))
              clear c30
              have H' := Aside0.mk H
              clear H
              obtain ⟨Ao35, co35, eo35⟩ := Kd.R_slice HO_12.out
              subst eo35
              try go_wp2
              have n0_ := Aside0.mk (Kd.R_drew HO_12.out)
              have n1_ := Aside0.mk (blk_drew BK205.out)
              have n2_ := Aside0.mk (blk_drew BK207.out)
              have n3_ := Aside0.mk (blk_drew BK208.out)
              have n4_ := Aside0.mk (blk_drew BK209.out)
              have n5_ := Aside0.mk (below_drew1 HB.out)
              clear HO_12
              clear BK205
              clear BK207
              clear BK208
              clear BK209
              clear HB
              have HO_12 := n0_
              have BK205 := n1_
              have BK207 := n2_
              have BK208 := n3_
              have BK209 := n4_
              have HB := n5_
              clear n0_ n1_ n2_ n3_ n4_ n5_
              have p213 : 0 ≤ (x13_1 : Int) := of_decide_eq_true (by first | (with_reducible assumption) | assumption)
              have q213 : x13_1 < (y210.length : Int) := of_decide_eq_true (by first | (with_reducible assumption) | assumption)
              obtain ⟨ad213, e213, hx213_0, hx213_1, hx213_2⟩ := at_T37 (Kd.R_reads' HO_12.out).2.2 x13_1 p213 q213
              cases e213
              replace p213 := eq_true p213
              replace q213 := eq_true q213
              have p215 : 0 ≤ (x13_1 : Int) := of_decide_eq_true (by first | (with_reducible assumption) | assumption)
              have q215 : x13_1 < (y210.length : Int) := of_decide_eq_true (by first | (with_reducible assumption) | assumption)
              obtain ⟨ad215, e215, hx215_0, hx215_1, hx215_2⟩ := at_T37 (Kd.R_reads' HO_12.out).2.2 x13_1 p215 q215
              obtain rfl : ad213 = ad215 := (by injection e215)
              replace p215 := eq_true p215
              replace q215 := eq_true q215
              refine start_ (n := 11) (S := fun w' => w'.cell? (ad213.add ((x13_1).toNat * 3)) = some (.int .i64 ((rd_T37 y210 x13_1).f0)) ∧ w'.cell? ⟨(ad213.add ((x13_1).toNat * 3)).block, (ad213.add ((x13_1).toNat * 3)).off + 1, none⟩ = some (.int .i64 ((rd_T37 y210 x13_1).f1)) ∧ w'.cell? ⟨(ad213.add ((x13_1).toNat * 3)).block, (ad213.add ((x13_1).toNat * 3)).off + 2, none⟩ = some (.int .i64 ((rd_T37 y210 x13_1).f2)) ∧ w'.cell? (ad213.add ((x13_1).toNat * 3)) = some (.int .i64 ((rd_T37 y210 x13_1).f0)) ∧ w'.cell? ⟨(ad213.add ((x13_1).toNat * 3)).block, (ad213.add ((x13_1).toNat * 3)).off + 1, none⟩ = some (.int .i64 ((rd_T37 y210 x13_1).f1)) ∧ w'.cell? ⟨(ad213.add ((x13_1).toNat * 3)).block, (ad213.add ((x13_1).toNat * 3)).off + 2, none⟩ = some (.int .i64 ((rd_T37 y210 x13_1).f2))) (ds := []) #[false, false, false, false, false, false, false, false, false, false, false] (by kernel_rfl) rfl rfl ⟨hx213_0, hx213_1, hx213_2, hx215_0, hx215_1, hx215_2⟩ (fun hHeld => ?_); refine with_tabW flagstonelaw39_ScoreValid.tab12 flagstonelaw39_ScoreValid.bits12 (fun HT_ HW_ => ?_)
              generalize wr.drew = w36 at HO_12 BK205 BK207 BK208 BK209 HB hx213_0 hx213_1 hx213_2 hx215_0 hx215_1 hx215_2 hHeld ⊢
              refine pure_ (i := 0) (N := some 66) (v := ?_) (a' := ?_) #[true, false, false, false, false, false, false, false, false, false, false] rfl rfl (any_of HT_.out (by kernel_rfl)) (fun _ _ _ h => h) (Or.inl ⟨by rfl, ?_⟩) ?_ ?_
              rotate_left
              · intro w'
                go_simp
                with_reducible rfl
              rotate_left
              · simp only [Act.put, List.setIfInBounds_toArray, List.set_cons_zero, List.set_cons_succ, i64_w, i32_w]
                rfl
              refine pure_ (i := 1) (N := some 67) (v := ?_) (a' := ?_) #[true, true, false, false, false, false, false, false, false, false, false] rfl rfl (any_of HT_.out (by kernel_rfl)) (fun _ _ _ h => h) (Or.inl ⟨by rfl, ?_⟩) ?_ ?_
              rotate_left
              · intro w'
                go_simp
                with_reducible rfl
              rotate_left
              · simp only [Act.put, List.setIfInBounds_toArray, List.set_cons_zero, List.set_cons_succ, i64_w, i32_w]
                rfl
              refine pure_ (i := 2) (N := some 68) (v := ?_) (a' := ?_) #[true, true, true, false, false, false, false, false, false, false, false] rfl rfl (any_of HT_.out (by kernel_rfl)) (fun _ _ _ h => h) (Or.inl ⟨by rfl, ?_⟩) ?_ ?_
              rotate_left
              · intro w'
                go_simp
                with_reducible rfl
              rotate_left
              · simp only [Act.put, List.setIfInBounds_toArray, List.set_cons_zero, List.set_cons_succ, i64_w, i32_w]
                rfl
              refine pure_ (i := 5) (N := some 71) (v := ?_) (a' := ?_) #[true, true, true, false, false, true, false, false, false, false, false] rfl rfl (any_of HT_.out (by kernel_rfl)) (fun _ _ _ h => h) (Or.inl ⟨by rfl, ?_⟩) ?_ ?_
              rotate_left
              · intro w'
                go_simp
                with_reducible rfl
              rotate_left
              · simp only [Act.put, List.setIfInBounds_toArray, List.set_cons_zero, List.set_cons_succ, i64_w, i32_w]
                rfl
              refine pure_ (i := 6) (N := some 72) (v := ?_) (a' := ?_) #[true, true, true, false, false, true, true, false, false, false, false] rfl rfl (any_of HT_.out (by kernel_rfl)) (fun _ _ _ h => h) (Or.inl ⟨by rfl, ?_⟩) ?_ ?_
              rotate_left
              · intro w'
                go_simp
                with_reducible rfl
              rotate_left
              · simp only [Act.put, List.setIfInBounds_toArray, List.set_cons_zero, List.set_cons_succ, i64_w, i32_w]
                rfl
              refine pure_ (i := 7) (N := some 73) (v := ?_) (a' := ?_) #[true, true, true, false, false, true, true, true, false, false, false] rfl rfl (any_of HT_.out (by kernel_rfl)) (fun _ _ _ h => h) (Or.inl ⟨by rfl, ?_⟩) ?_ ?_
              rotate_left
              · intro w'
                go_simp
                with_reducible rfl
              rotate_left
              · simp only [Act.put, List.setIfInBounds_toArray, List.set_cons_zero, List.set_cons_succ, i64_w, i32_w]
                rfl
              refine take_ (i := 3) (N := some 69) (v := ?_) (a' := ?_) #[true, true, true, true, false, true, true, true, false, false, false] rfl rfl (take_ofW HT_.out HW_.out (by kernel_rfl)) (fun _ _ _ h => h) (Or.inl ⟨by rfl, ?_⟩) hHeld ?_ ?_
              rotate_left
              · rintro w' ⟨s0, s1, s2, s3, s4, s5⟩
                go_simp
                with_reducible rfl
              rotate_left
              · simp only [Act.put, List.setIfInBounds_toArray, List.set_cons_zero, List.set_cons_succ, i64_w, i32_w]
                rfl
              refine take_ (i := 8) (N := some 74) (v := ?_) (a' := ?_) #[true, true, true, true, false, true, true, true, true, false, false] rfl rfl (take_ofW HT_.out HW_.out (by kernel_rfl)) (fun _ _ _ h => h) (Or.inl ⟨by rfl, ?_⟩) hHeld ?_ ?_
              rotate_left
              · rintro w' ⟨s0, s1, s2, s3, s4, s5⟩
                go_simp
                with_reducible rfl
              rotate_left
              · simp only [Act.put, List.setIfInBounds_toArray, List.set_cons_zero, List.set_cons_succ, i64_w, i32_w]
                rfl
              refine one_ (i := 4) (N := some 70) #[true, true, true, true, true, true, true, true, true, false, false] rfl rfl (one_of HT_.out (by kernel_rfl)) (by decide) (fun K hK => ?_)
              refine goes_ Try.func17 (by kernel_rfl) rfl #[.agg #[.int .i64 ((rd_T37 y210 x13_1).f0), .int .i64 ((rd_T37 y210 x13_1).f1), .int .i64 ((rd_T37 y210 x13_1).f2)]] (by rfl) rfl rfl (by (try simp only [List.map_toArray, List.map_cons, List.map_nil]); first | done | rfl | (simp only [List.length_drop, List.length_take]; rfl)) ?_
              with_reducible refine (score_Valid.calls ((rd_T37 y210 x13_1).f0) ((rd_T37 y210 x13_1).f1) ((rd_T37 y210 x13_1).f2) t214 _ A28.out).mono ?_
              rintro e w37 ⟨rfl, hb⟩
              have HS0_ := (hb.cell (World.block_lt_of_cell? _ _ (hHeld.1))).trans (hHeld.1)
              have HS1_ := (hb.cell (World.block_lt_of_cell? _ _ (hHeld.2.1))).trans (hHeld.2.1)
              have HS2_ := (hb.cell (World.block_lt_of_cell? _ _ (hHeld.2.2.1))).trans (hHeld.2.2.1)
              have HS3_ := (hb.cell (World.block_lt_of_cell? _ _ (hHeld.2.2.2.1))).trans (hHeld.2.2.2.1)
              have HS4_ := (hb.cell (World.block_lt_of_cell? _ _ (hHeld.2.2.2.2.1))).trans (hHeld.2.2.2.2.1)
              have HS5_ := (hb.cell (World.block_lt_of_cell? _ _ (hHeld.2.2.2.2.2))).trans (hHeld.2.2.2.2.2)
              refine ⟨_, rfl, ?_⟩
              have n0_ := Aside0.mk (Kd.R_below (by (with_reducible repeat (first | apply Kd.R_alloc | apply Kd.R_drewN | apply Kd.R_drew)); exact HO_12.out) hb)
              have n1_ := Aside0.mk (blk_below (g := gb205) (o := .cells #[.int .i64 a0_0, .int .i64 a0_1, .int .i64 a0_2] 37 (0, 0)) (by (with_reducible repeat (first | refine blk_drewN ?_ _ | refine blk_drew ?_ | refine blk_alloc ?_ _)); exact BK205.out) hb)
              have n2_ := Aside0.mk (blk_below (g := gb207) (o := .cells #[.int .i64 (wrap64 ((Int.tmod (wrap64 (a1)) 12) - 6)), .int .i64 (wrap64 ((Int.tmod (wrap64 (a2)) 8) - 1)), .int .i64 (Int.tmod (wrap64 (a3)) 10)] 37 (0, 0)) (by (with_reducible repeat (first | refine blk_drewN ?_ _ | refine blk_drew ?_ | refine blk_alloc ?_ _)); exact BK207.out) hb)
              have n3_ := Aside0.mk (blk_below (g := gb208) (o := .cells #[.int .i64 (wrap64 ((wrap64 ((wrap64 (562949953421311 + (Int.tmod (wrap64 (a3)) 3))) - (wrap64 (1 + (Int.tmod (wrap64 (a2)) 2))))) + (wrap64 ((Int.tmod (wrap64 (a1)) 3) - 1)))), .int .i64 (wrap64 (1 + (Int.tmod (wrap64 (a2)) 2))), .int .i64 (wrap64 (562949953421311 + (Int.tmod (wrap64 (a3)) 3)))] 37 (0, 0)) (by (with_reducible repeat (first | refine blk_drewN ?_ _ | refine blk_drew ?_ | refine blk_alloc ?_ _)); exact BK208.out) hb)
              have n4_ := Aside0.mk (blk_below (g := gb209) (o := .cells #[.int .i64 (wrap64 (-(wrap64 ((wrap64 ((wrap64 (562949953421311 + (Int.tmod (wrap64 (a3)) 3))) - (wrap64 (1 + (Int.tmod (wrap64 (a2)) 2))))) + (wrap64 ((Int.tmod (wrap64 (a1)) 3) - 1)))))), .int .i64 (wrap64 (1 + (Int.tmod (wrap64 (a2)) 2))), .int .i64 (wrap64 (562949953421311 + (Int.tmod (wrap64 (a3)) 3)))] 37 (0, 0)) (by (with_reducible repeat (first | refine blk_drewN ?_ _ | refine blk_drew ?_ | refine blk_alloc ?_ _)); exact BK209.out) hb)
              have n5_ := Aside0.mk (below_step (by repeat (first | (with_reducible first | exact HB.out | apply below_alloc | apply pw_below_drewN | apply below_drew1 | refine below_set ?_ GE205.out | refine below_set ?_ GE207.out | refine below_set ?_ GE208.out | refine below_set ?_ GE209.out) | exact HB.out)) hb)
              clear HO_12
              clear BK205
              clear BK207
              clear BK208
              clear BK209
              clear HB
              have HO_12 := n0_
              have BK205 := n1_
              have BK207 := n2_
              have BK208 := n3_
              have BK209 := n4_
              have HB := n5_
              clear n0_ n1_ n2_ n3_ n4_ n5_
              (try clear hb)
              (try clear hb2)
              (try clear hk)
              (try clear hi)
              refine hK.out _ _ ⟨HS0_, HS1_, HS2_, HS3_, HS4_, HS5_⟩ (fun hHeld => ?_)
              clear hK K
              refine norm_ (a' := ?_) ?_ ?_
              rotate_left
              · show Act.put _ (some 70) _ = _
                simp only [Act.put, List.setIfInBounds_toArray, List.set_cons_zero, List.set_cons_succ, i64_w, i32_w]
                rfl
              refine one_ (i := 9) (N := some 75) #[true, true, true, true, true, true, true, true, true, true, false] rfl rfl (one_of HT_.out (by kernel_rfl)) (by decide) (fun K hK => ?_)
              refine goes_ Try.func18 (by kernel_rfl) rfl #[.agg #[.int .i64 ((rd_T37 y210 x13_1).f0), .int .i64 ((rd_T37 y210 x13_1).f1), .int .i64 ((rd_T37 y210 x13_1).f2)]] (by rfl) rfl rfl (by (try simp only [List.map_toArray, List.map_cons, List.map_nil]); first | done | rfl | (simp only [List.length_drop, List.length_take]; rfl)) ?_
              with_reducible refine (flagstoneref39_Valid.calls ((rd_T37 y210 x13_1).f0) ((rd_T37 y210 x13_1).f1) ((rd_T37 y210 x13_1).f2) t216 _ A29.out).mono ?_
              rintro e w38 ⟨rfl, hb⟩
              have HS0_ := (hb.cell (World.block_lt_of_cell? _ _ (hHeld.1))).trans (hHeld.1)
              have HS1_ := (hb.cell (World.block_lt_of_cell? _ _ (hHeld.2.1))).trans (hHeld.2.1)
              have HS2_ := (hb.cell (World.block_lt_of_cell? _ _ (hHeld.2.2.1))).trans (hHeld.2.2.1)
              have HS3_ := (hb.cell (World.block_lt_of_cell? _ _ (hHeld.2.2.2.1))).trans (hHeld.2.2.2.1)
              have HS4_ := (hb.cell (World.block_lt_of_cell? _ _ (hHeld.2.2.2.2.1))).trans (hHeld.2.2.2.2.1)
              have HS5_ := (hb.cell (World.block_lt_of_cell? _ _ (hHeld.2.2.2.2.2))).trans (hHeld.2.2.2.2.2)
              refine ⟨_, rfl, ?_⟩
              have n0_ := Aside0.mk (Kd.R_below (by (with_reducible repeat (first | apply Kd.R_alloc | apply Kd.R_drewN | apply Kd.R_drew)); exact HO_12.out) hb)
              have n1_ := Aside0.mk (blk_below (g := gb205) (o := .cells #[.int .i64 a0_0, .int .i64 a0_1, .int .i64 a0_2] 37 (0, 0)) (by (with_reducible repeat (first | refine blk_drewN ?_ _ | refine blk_drew ?_ | refine blk_alloc ?_ _)); exact BK205.out) hb)
              have n2_ := Aside0.mk (blk_below (g := gb207) (o := .cells #[.int .i64 (wrap64 ((Int.tmod (wrap64 (a1)) 12) - 6)), .int .i64 (wrap64 ((Int.tmod (wrap64 (a2)) 8) - 1)), .int .i64 (Int.tmod (wrap64 (a3)) 10)] 37 (0, 0)) (by (with_reducible repeat (first | refine blk_drewN ?_ _ | refine blk_drew ?_ | refine blk_alloc ?_ _)); exact BK207.out) hb)
              have n3_ := Aside0.mk (blk_below (g := gb208) (o := .cells #[.int .i64 (wrap64 ((wrap64 ((wrap64 (562949953421311 + (Int.tmod (wrap64 (a3)) 3))) - (wrap64 (1 + (Int.tmod (wrap64 (a2)) 2))))) + (wrap64 ((Int.tmod (wrap64 (a1)) 3) - 1)))), .int .i64 (wrap64 (1 + (Int.tmod (wrap64 (a2)) 2))), .int .i64 (wrap64 (562949953421311 + (Int.tmod (wrap64 (a3)) 3)))] 37 (0, 0)) (by (with_reducible repeat (first | refine blk_drewN ?_ _ | refine blk_drew ?_ | refine blk_alloc ?_ _)); exact BK208.out) hb)
              have n4_ := Aside0.mk (blk_below (g := gb209) (o := .cells #[.int .i64 (wrap64 (-(wrap64 ((wrap64 ((wrap64 (562949953421311 + (Int.tmod (wrap64 (a3)) 3))) - (wrap64 (1 + (Int.tmod (wrap64 (a2)) 2))))) + (wrap64 ((Int.tmod (wrap64 (a1)) 3) - 1)))))), .int .i64 (wrap64 (1 + (Int.tmod (wrap64 (a2)) 2))), .int .i64 (wrap64 (562949953421311 + (Int.tmod (wrap64 (a3)) 3)))] 37 (0, 0)) (by (with_reducible repeat (first | refine blk_drewN ?_ _ | refine blk_drew ?_ | refine blk_alloc ?_ _)); exact BK209.out) hb)
              have n5_ := Aside0.mk (below_step (by repeat (first | (with_reducible first | exact HB.out | apply below_alloc | apply pw_below_drewN | apply below_drew1 | refine below_set ?_ GE205.out | refine below_set ?_ GE207.out | refine below_set ?_ GE208.out | refine below_set ?_ GE209.out) | exact HB.out)) hb)
              clear HO_12
              clear BK205
              clear BK207
              clear BK208
              clear BK209
              clear HB
              have HO_12 := n0_
              have BK205 := n1_
              have BK207 := n2_
              have BK208 := n3_
              have BK209 := n4_
              have HB := n5_
              clear n0_ n1_ n2_ n3_ n4_ n5_
              (try clear hb)
              (try clear hb2)
              (try clear hk)
              (try clear hi)
              refine hK.out _ _ ⟨HS0_, HS1_, HS2_, HS3_, HS4_, HS5_⟩ (fun hHeld => ?_)
              clear hK K
              refine norm_ (a' := ?_) ?_ ?_
              rotate_left
              · show Act.put _ (some 75) _ = _
                simp only [Act.put, List.setIfInBounds_toArray, List.set_cons_zero, List.set_cons_succ, i64_w, i32_w]
                rfl
              refine pure_ (i := 10) (N := some 76) (v := ?_) (a' := ?_) #[true, true, true, true, true, true, true, true, true, true, true] rfl rfl (any_of HT_.out (by kernel_rfl)) (fun _ _ _ h => h) (Or.inl ⟨by rfl, ?_⟩) ?_ ?_
              rotate_left
              · intro w'
                go_simp
                with_reducible rfl
              rotate_left
              · simp only [Act.put, List.setIfInBounds_toArray, List.set_cons_zero, List.set_cons_succ, i64_w, i32_w]
                rfl
              refine done_ (done_of HT_.out (by kernel_rfl)) ?_
              try go_wp2
              go_roundg k1
              case measure => have := HK1.out; omega
              case rel => exact ⟨(wrap64 (x13_1 + 1)), (by first | rfl | (simp; done) | (simp [*]; done) | exact congrArg (Value.int _) (by unfold wrap64; omega)), H', ⟨by have := HK1.out; omega⟩, ⟨by (with_reducible repeat (first | apply Kd.R_alloc | apply Kd.R_drewN | apply Kd.R_drew)); exact HO_12.out⟩, ⟨by (with_reducible repeat (first | refine blk_drewN ?_ _ | refine blk_drew ?_ | refine blk_alloc ?_ _)); exact BK205.out⟩, ⟨by (with_reducible repeat (first | refine blk_drewN ?_ _ | refine blk_drew ?_ | refine blk_alloc ?_ _)); exact BK207.out⟩, ⟨by (with_reducible repeat (first | refine blk_drewN ?_ _ | refine blk_drew ?_ | refine blk_alloc ?_ _)); exact BK208.out⟩, ⟨by (with_reducible repeat (first | refine blk_drewN ?_ _ | refine blk_drew ?_ | refine blk_alloc ?_ _)); exact BK209.out⟩, ⟨by repeat (first | (with_reducible first | exact HB.out | apply below_alloc | apply pw_below_drewN | apply below_drew1 | refine below_set ?_ GE205.out | refine below_set ?_ GE207.out | refine below_set ?_ GE208.out | refine below_set ?_ GE209.out) | exact HB.out)⟩⟩
          · rw [if_neg c27] at H
            exact absurd H (by simp)
        · rw [if_neg c26] at H
          have c26b0 : decide (x13_1 < (y210.length : Int)) = false := decide_eq_false c26
          clear c26
          obtain rfl := Option.some.inj H
          obtain ⟨Ao39, co39, eo39⟩ := Kd.R_slice HO_12.out
          subst eo39
          go_wp2
          go_ret
          exact ⟨by first | rfl | (simp [errW_none, errW_some] <;> rfl) | (simp [*, errW_none, errW_some] <;> rfl), by repeat (first | (with_reducible first | exact HB.out | apply below_alloc | apply pw_below_drewN | apply below_drew1 | refine below_set ?_ GE205.out | refine below_set ?_ GE207.out | refine below_set ?_ GE208.out | refine below_set ?_ GE209.out) | exact HB.out)⟩
  · replace c6 := Bool.eq_false_iff.mpr c6
    subst c6
    have H1 : (some false) = some r := by rw [if_neg (show ¬ (false = true) by decide)] at H; exact H
    clear H
    have H := H1
    clear H1
    obtain rfl := Option.some.inj H
    go_enter Try.func5, Try.ntmps5
    go_wp2_with (first | ((with_reducible refine gate_dst (N := 4) rfl ?_); refine box_event ?hg (N := 4) ?hd (cs := #[.int .i64 a0_0, .int .i64 a0_1, .int .i64 a0_2]) (t := 37) ?hr ?_; (case hd => rfl); (case hg => rfl); (case hr => first | (go_simp; done) | (go_simp; rfl)); intro gb205 hg w40 hbox hb; have n0_ := Aside0.mk (below_step (by repeat (first | (with_reducible first | exact HB.out | apply below_alloc | apply pw_below_drewN | apply below_drew1) | exact HB.out)) hb); have n1_ := Aside0.mk (hbox); have n2_ := Aside0.mk ((by rw [hg]; exact (below_size (by repeat (first | (with_reducible first | exact HB.out | apply below_alloc | apply pw_below_drewN | apply below_drew1) | exact HB.out))) : w.heap.size ≤ gb205)); have n3_ := Aside0.mk ((by rw [hg]; exact (below_size (by repeat (first | (with_reducible first | exact HB.out | apply below_alloc | apply pw_below_drewN | apply below_drew1) | exact HB.out))) : w.heap.size ≤ gb205)); clear HB; have HB := n0_; have BK205 := n1_; have GW205 := n2_; have GE205 := n3_; clear n0_ n1_ n2_ n3_; clear hb hbox hg) | ((with_reducible refine gate_callee (f := 11) rfl ?_); refine goesL_ (some 14) rfl rfl Try.func11 (by kernel_rfl) rfl #[] rfl (by (try simp only [List.map_toArray, List.map_cons, List.map_nil]); first | done | rfl | (simp only [List.length_drop, List.length_take]; rfl)) ?_; (with_reducible refine (flagstonelaw39_awake.calls k  false _ A5.out).mono ?_); rintro e w41 ⟨rfl, hb⟩; refine ⟨_, rfl, ?_⟩; have n0_ := Aside0.mk (blk_below (g := gb205) (o := .cells #[.int .i64 a0_0, .int .i64 a0_1, .int .i64 a0_2] 37 (0, 0)) (by (with_reducible repeat (first | refine blk_drewN ?_ _ | refine blk_drew ?_ | refine blk_alloc ?_ _)); exact BK205.out) hb); have n1_ := Aside0.mk (below_step (by repeat (first | (with_reducible first | exact HB.out | apply below_alloc | apply pw_below_drewN | apply below_drew1 | refine below_set ?_ GE205.out) | exact HB.out)) hb); clear BK205; clear HB; have BK205 := n0_; have HB := n1_; clear n0_ n1_; (try clear hb); (try clear hb2); (try clear hk); (try clear hi)))
    go_ret
    exact ⟨by first | rfl | (simp [errW_none, errW_some] <;> rfl) | (simp [*, errW_none, errW_some] <;> rfl), by repeat (first | (with_reducible first | exact HB.out | apply below_alloc | apply pw_below_drewN | apply below_drew1 | refine below_set ?_ GE205.out) | exact HB.out)⟩

/-- THE ONE PURE STATEMENT of flagstonelaw39_ScoreValid: yours. -/
def flagstonelaw39_ScoreValid.Pure : Prop := ∀ (a0_0 : Int) (a0_1 : Int) (a0_2 : Int) (a1 : Int) (a2 : Int) (a3 : Int), (Lit.int .i64 a0_0).wf = true → (Lit.int .i64 a0_1).wf = true → (Lit.int .i64 a0_2).wf = true → (Lit.int .u8 a1).wf = true → (Lit.int .u8 a2).wf = true → (Lit.int .u8 a3).wf = true → ∃ k, flagstonelaw39_ScoreValid.f k a0_0 a0_1 a0_2 a1 a2 a3 = some true

end Go.Proofs.Ytdmhdbebjjhopaa.PA
