-- Written by a program of this seat's session (wip/tools/ownprint.py, over the kit's printer) out of the translation: functions and their contracts.
import Derived.Test.YtdmhdbebjjhopaaPA0
import Derived.Test.YtdmhdbebjjhopaaPA3
import Derived.Test.YtdmhdbebjjhopaaPA6
import Derived.Test.YtdmhdbebjjhopaaPA7
namespace Go.Proofs.Ytdmhdbebjjhopaa.PA
open Go.RowKit Go.Proofs.YtdmhdbebjjhopaaW.PrintWords Go.Proofs.YtdmhdbebjjhopaaW.PrintLast Go.Proofs.YtdmhdbebjjhopaaW.PrintMore
attribute [local go_sem] max2_int min2_int max_two min_two max_three min_three max_four min_four   -- for this text's walks alone
set_option linter.unusedVariables false
set_option linter.unusedSimpArgs false

/-! ### flagstonelaw39_ScorePredictsAny: function 4 -/
mutual
def flagstonelaw39_ScorePredictsAny.l0 : Nat → List (S34) → Int → Int → Int → List (S34) → Int → Option (Bool)
 | 0, _, _, _, _, _, _ => none
 | k + 1, x0, x1, x2, x3, x9, x10 => if x10 < (x0.length : Int) then (if 0 ≤ x10 then (flagstonelaw39_ScorePredictsAny.j1 k x0 x1 x2 x3 x9 x10 ((rd_T34 x0 x10).f0.f0) ((rd_T34 x0 x10).f0.f1) ((rd_T34 x0 x10).f0.f2) ((rd_T34 x0 x10).f0.f3) ((rd_T34 x0 x10).f0.f4) ((rd_T34 x0 x10).f0.f5) (Int.tmod ((rd_T34 x0 x10).f1) 1099511627777) ((rd_T34 x0 x10).f2) ((rd_T34 x0 x10).f3) ((rd_T34 x0 x10).f4)) else (none)) else (if (wrap64 ((x9.length : Int) + 1)) = 0 then (none) else ((score_Predict.f k x9 (Int.tmod (wrap64 (x1)) (wrap64 ((x9.length : Int) + 1))) (wrap64 (1 + (Int.tmod (wrap64 (x2)) 2))) (wrap64 (x3))).bind fun t426 => ((flagstoneref39_Predict.f k x9 (Int.tmod (wrap64 (x1)) (wrap64 ((x9.length : Int) + 1))) (wrap64 (1 + (Int.tmod (wrap64 (x2)) 2))) (wrap64 (x3))).bind fun t427 => (some (t426 == t427)))))
def flagstonelaw39_ScorePredictsAny.j1 : Nat → List (S34) → Int → Int → Int → List (S34) → Int → ByteArray → ByteArray → Int → Int → Int → Int → Int → Int → Int → Bool → Option (Bool)
 | 0, _, _, _, _, _, _, _, _, _, _, _, _, _, _, _, _ => none
 | k + 1, x0, x1, x2, x3, x9, x10, x423000, x423001, x423002, x423003, x423004, x423005, x423006, x423007, x423008, x423009 => flagstonelaw39_ScorePredictsAny.j2 k x0 x1 x2 x3 x9 x10 x423000 x423001 x423002 x423003 (wrap64 (1 + (Int.tmod (wrap64 (x10 * (wrap64 (x2)))) 3))) x423005 x423006 x423007 x423008 x423009
def flagstonelaw39_ScorePredictsAny.j2 : Nat → List (S34) → Int → Int → Int → List (S34) → Int → ByteArray → ByteArray → Int → Int → Int → Int → Int → Int → Int → Bool → Option (Bool)
 | 0, _, _, _, _, _, _, _, _, _, _, _, _, _, _, _, _ => none
 | k + 1, x0, x1, x2, x3, x9, x10, x423000, x423001, x423002, x423003, x423004, x423005, x423006, x423007, x423008, x423009 => if x9.length < 1466015503701 then (flagstonelaw39_ScorePredictsAny.l0 k x0 x1 x2 x3 (x9 ++ [(⟨(⟨x423000, x423001, x423002, x423003, x423004, x423005⟩ : S32), x423006, x423007, x423008, x423009⟩ : S34)]) (wrap64 (x10 + 1))) else (none)
end
def flagstonelaw39_ScorePredictsAny.f (k : Nat) (l0 : List (S34)) (a1 : Int) (a2 : Int) (a3 : Int) : Option (Bool) := (flagstonelaw39_awake.f k).bind fun t420 => (if t420 = true then (if (l0.length : Int) > 60 then (some true) else (flagstonelaw39_ScorePredictsAny.l0 k l0 a1 a2 a3 ([] : List (S34)) 0)) else (some false))
theorem flagstonelaw39_ScorePredictsAny.mono_l : ∀ k, (∀ y0 y1 y2 y3 y4 y5, LeO (flagstonelaw39_ScorePredictsAny.l0 k y0 y1 y2 y3 y4 y5) (flagstonelaw39_ScorePredictsAny.l0 (k + 1) y0 y1 y2 y3 y4 y5)) ∧ (∀ y0 y1 y2 y3 y4 y5 y6 y7 y8 y9 y10 y11 y12 y13 y14 y15, LeO (flagstonelaw39_ScorePredictsAny.j1 k y0 y1 y2 y3 y4 y5 y6 y7 y8 y9 y10 y11 y12 y13 y14 y15) (flagstonelaw39_ScorePredictsAny.j1 (k + 1) y0 y1 y2 y3 y4 y5 y6 y7 y8 y9 y10 y11 y12 y13 y14 y15)) ∧ (∀ y0 y1 y2 y3 y4 y5 y6 y7 y8 y9 y10 y11 y12 y13 y14 y15, LeO (flagstonelaw39_ScorePredictsAny.j2 k y0 y1 y2 y3 y4 y5 y6 y7 y8 y9 y10 y11 y12 y13 y14 y15) (flagstonelaw39_ScorePredictsAny.j2 (k + 1) y0 y1 y2 y3 y4 y5 y6 y7 y8 y9 y10 y11 y12 y13 y14 y15))
 | 0 => ⟨fun _ _ _ _ _ _ r h => by simp [flagstonelaw39_ScorePredictsAny.l0] at h, fun _ _ _ _ _ _ _ _ _ _ _ _ _ _ _ _ r h => by simp [flagstonelaw39_ScorePredictsAny.j1] at h, fun _ _ _ _ _ _ _ _ _ _ _ _ _ _ _ _ r h => by simp [flagstonelaw39_ScorePredictsAny.j2] at h⟩
 | k + 1 => by
  obtain ⟨ih0, ih1, ih2⟩ := flagstonelaw39_ScorePredictsAny.mono_l k
  refine ⟨?_, ?_, ?_⟩
  ·intro y0 y1 y2 y3 y4 y5
   unfold flagstonelaw39_ScorePredictsAny.l0
   repeat' first
   | (with_reducible exact ih0 _ _ _ _ _ _)
   | (with_reducible exact ih1 _ _ _ _ _ _ _ _ _ _ _ _ _ _ _ _)
   | (with_reducible exact ih2 _ _ _ _ _ _ _ _ _ _ _ _ _ _ _ _)
   | (with_reducible exact flagstonelaw39_awake.mono _)
   | (with_reducible exact flagstoneref39_Predict.mono _ _ _ _ _)
   | (with_reducible exact score_Predict.mono _ _ _ _ _)
   | (with_reducible exact LeO.refl _)
   | (with_reducible exact LeO.none _)
   | (with_reducible refine LeO.ite ?_ ?_)
   | (with_reducible refine LeO.bind ?_ (fun _ => ?_))
   | exact ih0 _ _ _ _ _ _
   | exact ih1 _ _ _ _ _ _ _ _ _ _ _ _ _ _ _ _
   | exact ih2 _ _ _ _ _ _ _ _ _ _ _ _ _ _ _ _
   | exact flagstonelaw39_awake.mono _
   | exact flagstoneref39_Predict.mono _ _ _ _ _
   | exact score_Predict.mono _ _ _ _ _
   | exact LeO.none _
   | refine LeO.ite ?_ ?_
   | refine LeO.bind ?_ (fun _ => ?_)
  ·intro y0 y1 y2 y3 y4 y5 y6 y7 y8 y9 y10 y11 y12 y13 y14 y15
   unfold flagstonelaw39_ScorePredictsAny.j1
   repeat' first
   | (with_reducible exact ih0 _ _ _ _ _ _)
   | (with_reducible exact ih1 _ _ _ _ _ _ _ _ _ _ _ _ _ _ _ _)
   | (with_reducible exact ih2 _ _ _ _ _ _ _ _ _ _ _ _ _ _ _ _)
   | (with_reducible exact flagstonelaw39_awake.mono _)
   | (with_reducible exact flagstoneref39_Predict.mono _ _ _ _ _)
   | (with_reducible exact score_Predict.mono _ _ _ _ _)
   | (with_reducible exact LeO.refl _)
   | (with_reducible exact LeO.none _)
   | (with_reducible refine LeO.ite ?_ ?_)
   | (with_reducible refine LeO.bind ?_ (fun _ => ?_))
   | exact ih0 _ _ _ _ _ _
   | exact ih1 _ _ _ _ _ _ _ _ _ _ _ _ _ _ _ _
   | exact ih2 _ _ _ _ _ _ _ _ _ _ _ _ _ _ _ _
   | exact flagstonelaw39_awake.mono _
   | exact flagstoneref39_Predict.mono _ _ _ _ _
   | exact score_Predict.mono _ _ _ _ _
   | exact LeO.none _
   | refine LeO.ite ?_ ?_
   | refine LeO.bind ?_ (fun _ => ?_)
  ·intro y0 y1 y2 y3 y4 y5 y6 y7 y8 y9 y10 y11 y12 y13 y14 y15
   unfold flagstonelaw39_ScorePredictsAny.j2
   repeat' first
   | (with_reducible exact ih0 _ _ _ _ _ _)
   | (with_reducible exact ih1 _ _ _ _ _ _ _ _ _ _ _ _ _ _ _ _)
   | (with_reducible exact ih2 _ _ _ _ _ _ _ _ _ _ _ _ _ _ _ _)
   | (with_reducible exact flagstonelaw39_awake.mono _)
   | (with_reducible exact flagstoneref39_Predict.mono _ _ _ _ _)
   | (with_reducible exact score_Predict.mono _ _ _ _ _)
   | (with_reducible exact LeO.refl _)
   | (with_reducible exact LeO.none _)
   | (with_reducible refine LeO.ite ?_ ?_)
   | (with_reducible refine LeO.bind ?_ (fun _ => ?_))
   | exact ih0 _ _ _ _ _ _
   | exact ih1 _ _ _ _ _ _ _ _ _ _ _ _ _ _ _ _
   | exact ih2 _ _ _ _ _ _ _ _ _ _ _ _ _ _ _ _
   | exact flagstonelaw39_awake.mono _
   | exact flagstoneref39_Predict.mono _ _ _ _ _
   | exact score_Predict.mono _ _ _ _ _
   | exact LeO.none _
   | refine LeO.ite ?_ ?_
   | refine LeO.bind ?_ (fun _ => ?_)
theorem flagstonelaw39_ScorePredictsAny.mono : ∀ a0 a1 a2 a3 k, LeO (flagstonelaw39_ScorePredictsAny.f k a0 a1 a2 a3) (flagstonelaw39_ScorePredictsAny.f (k + 1) a0 a1 a2 a3) := by
 intro a0 a1 a2 a3 k
 obtain ⟨ih0, ih1, ih2⟩ := flagstonelaw39_ScorePredictsAny.mono_l k
 unfold flagstonelaw39_ScorePredictsAny.f
 repeat' first
   | (with_reducible exact ih0 _ _ _ _ _ _)
   | (with_reducible exact ih1 _ _ _ _ _ _ _ _ _ _ _ _ _ _ _ _)
   | (with_reducible exact ih2 _ _ _ _ _ _ _ _ _ _ _ _ _ _ _ _)
   | (with_reducible exact flagstonelaw39_awake.mono _)
   | (with_reducible exact flagstoneref39_Predict.mono _ _ _ _ _)
   | (with_reducible exact score_Predict.mono _ _ _ _ _)
   | (with_reducible exact LeO.refl _)
   | (with_reducible exact LeO.none _)
   | (with_reducible refine LeO.ite ?_ ?_)
   | (with_reducible refine LeO.bind ?_ (fun _ => ?_))
   | exact ih0 _ _ _ _ _ _
   | exact ih1 _ _ _ _ _ _ _ _ _ _ _ _ _ _ _ _
   | exact ih2 _ _ _ _ _ _ _ _ _ _ _ _ _ _ _ _
   | exact flagstonelaw39_awake.mono _
   | exact flagstoneref39_Predict.mono _ _ _ _ _
   | exact score_Predict.mono _ _ _ _ _
   | exact LeO.none _
   | refine LeO.ite ?_ ?_
   | refine LeO.bind ?_ (fun _ => ?_)
set_option maxHeartbeats 8000000 in
set_option maxRecDepth 100000 in
theorem flagstonelaw39_ScorePredictsAny.calls (k : Nat) (A0 : Option Addr) (c0 : Nat) (l0 : List (S34)) (a1 : Int) (a2 : Int) (a3 : Int) (r : Bool) (w : World) (hr0 : Kd.C k34 w A0 l0.length l0) (hc0 : l0.length ≤ c0) (h : flagstonelaw39_ScorePredictsAny.f k l0 a1 a2 a3 = some r) :
  Calls Try.prog 4 #[.slice A0 l0.length c0, .int .u8 a1, .int .u8 a2, .int .u16 a3] w fun e w' => e = .returned (.bool r) ∧ Below w.heap.size w w' := by
 have hu34 := Try.underlying34
 have HR0 := Aside0.mk hr0
 have HC0 := Aside0.mk hc0
 clear hr0 hc0
 have HB := Aside0.mk (Below.refl w.heap.size w)
 have H : ((flagstonelaw39_awake.f k).bind fun t420 => (if t420 = true then (if (l0.length : Int) > 60 then (some true) else (flagstonelaw39_ScorePredictsAny.l0 k l0 a1 a2 a3 ([] : List (S34)) 0)) else (some false))) = some r := h
 clear h
 replace H := Option.bind_eq_some_iff.mp H
 obtain ⟨t420, A50, H⟩ := H
 replace H : (if t420 = true then (if (l0.length : Int) > 60 then (some true) else (flagstonelaw39_ScorePredictsAny.l0 k l0 a1 a2 a3 ([] : List (S34)) 0)) else (some false)) = some r := H
 have A5 := Aside0.mk A50
 clear A50
 by_cases c6 : t420 = true
 ·subst c6
  have H1 : (if (l0.length : Int) > 60 then (some true) else (flagstonelaw39_ScorePredictsAny.l0 k l0 a1 a2 a3 ([] : List (S34)) 0)) = some r := by rw [if_pos rfl] at H; exact H
  clear H
  have H := H1
  clear H1
  by_cases c7 : (l0.length : Int) > 60
  ·rw [if_pos c7] at H
   have c7b0 : decide (60 < (l0.length : Int)) = true := decide_eq_true c7
   have c7b1 : decide (60 < l0.length) = true := decide_eq_true (by omega)
   clear c7
   obtain rfl := Option.some.inj H
   go_enter Try.func4, Try.ntmps4
   go_wp2_with (first | ((with_reducible refine gate_callee (f := 11) rfl ?_); refine goesL_ (some 13) rfl rfl Try.func11 (by kernel_rfl) rfl #[] rfl (by (try simp only [List.map_toArray, List.map_cons, List.map_nil]); first | done | rfl | (simp only [List.length_drop, List.length_take]; rfl)) ?_; (with_reducible refine (flagstonelaw39_awake.calls k  true _ A5.out).mono ?_); rintro e w8 ⟨rfl, hb⟩; refine ⟨_, rfl, ?_⟩; have n0_ := Aside0.mk (below_step (by repeat (first | (with_reducible first | exact HB.out | apply below_alloc | apply pw_below_drewN | apply below_drew1) | exact HB.out)) hb); clear HB; have HB := n0_; clear n0_; (try clear hb); (try clear hb2); (try clear hk); (try clear hi)))
   go_ret
   exact ⟨by first | rfl | (simp [errW_none, errW_some] <;> rfl) | (simp [*, errW_none, errW_some] <;> rfl), by repeat (first | (with_reducible first | exact HB.out | apply below_alloc | apply pw_below_drewN | apply below_drew1) | exact HB.out)⟩
  ·rw [if_neg c7] at H
   have c7b0 : decide (60 < (l0.length : Int)) = false := decide_eq_false c7
   have c7b1 : decide (60 < l0.length) = false := decide_eq_false (by omega)
   clear c7
   have H' := Aside0.mk H
   clear H
   go_enter Try.func4, Try.ntmps4
   go_wp2_with (first | ((with_reducible refine gate_callee (f := 11) rfl ?_); refine goesL_ (some 13) rfl rfl Try.func11 (by kernel_rfl) rfl #[] rfl (by (try simp only [List.map_toArray, List.map_cons, List.map_nil]); first | done | rfl | (simp only [List.length_drop, List.length_take]; rfl)) ?_; (with_reducible refine (flagstonelaw39_awake.calls k  true _ A5.out).mono ?_); rintro e w9 ⟨rfl, hb⟩; refine ⟨_, rfl, ?_⟩; have n0_ := Aside0.mk (below_step (by repeat (first | (with_reducible first | exact HB.out | apply below_alloc | apply pw_below_drewN | apply below_drew1) | exact HB.out)) hb); clear HB; have HB := n0_; clear n0_; (try clear hb); (try clear hb2); (try clear hk); (try clear hi)))
   go_loopg [9, 10] k (fun kq v9 v10 w' => ∃ (x9_1 : List (S34)) (x10_1 : Int), v10 = .int .i64 x10_1 ∧ Aside0 (flagstonelaw39_ScorePredictsAny.l0 kq l0 a1 a2 a3 x9_1 x10_1 = some r) ∧ Aside0 (kq ≤ k) ∧ Aside0 (Kd.R k34 34 w' w.heap.size (fun _ => True) v9 x9_1) ∧ Aside0 (Below w.heap.size w w'))
   case atStart => exact ⟨(([] : List (S34))), (0), (by first | rfl | (simp; done) | (simp [*]; done) | exact congrArg (Value.int _) (by unfold wrap64; omega)), H', ⟨Nat.le_refl _⟩, ⟨by first | exact Kd.R_nil _ _ _ _ _ | exact Kd.N_nil _ _ _ _ _ | exact Kd.V_nil _ _ _ _ _ | exact Kd.Q_nil _ _ _ _ _ | exact Kd.S_nil _ _ _ _ _⟩, ⟨by repeat (first | (with_reducible first | exact HB.out | apply below_alloc | apply pw_below_drewN | apply below_drew1) | exact HB.out)⟩⟩
   case round =>
    clear H'
    try clear c1
    try clear p2
    try clear c4
    try clear c6
    try clear p6
    try clear c7
    try clear c7b0
    try clear c7b1
    obtain ⟨x9_1, x10_1, rfl, HA, HK1, HO_9, HB⟩ := hrel
    cases gk with
    | zero => exact absurd HA.out (by simp [flagstonelaw39_ScorePredictsAny.l0])
    | succ k1 =>
     have H := HA.out
     clear HA
     simp only [flagstonelaw39_ScorePredictsAny.l0] at H
     by_cases c10 : x10_1 < (l0.length : Int)
     ·rw [if_pos c10] at H
      have c10b0 : decide (x10_1 < (l0.length : Int)) = true := decide_eq_true c10
      clear c10
      by_cases c11 : 0 ≤ x10_1
      ·rw [if_pos c11] at H
       have c11b0 : decide (0 ≤ x10_1) = true := decide_eq_true c11
       clear c11
       have HC12 := Aside0.mk H
       clear H
       have p421 : 0 ≤ (x10_1 : Int) := of_decide_eq_true (by first | (with_reducible assumption) | assumption)
       have q421 : x10_1 < (l0.length : Int) := of_decide_eq_true (by first | (with_reducible assumption) | assumption)
       obtain ⟨ad421, e421, hx421_0, hx421_1, hx421_2, hx421_3, hx421_4, hx421_5, hx421_6, hx421_7, hx421_8, hx421_9⟩ := at_T34 HR0.out x10_1 p421 q421
       cases e421
       replace hx421_0 := (HB.out.cell (World.block_lt_of_cell? w _ hx421_0)).trans hx421_0
       replace hx421_1 := (HB.out.cell (World.block_lt_of_cell? w _ hx421_1)).trans hx421_1
       replace hx421_2 := (HB.out.cell (World.block_lt_of_cell? w _ hx421_2)).trans hx421_2
       replace hx421_3 := (HB.out.cell (World.block_lt_of_cell? w _ hx421_3)).trans hx421_3
       replace hx421_4 := (HB.out.cell (World.block_lt_of_cell? w _ hx421_4)).trans hx421_4
       replace hx421_5 := (HB.out.cell (World.block_lt_of_cell? w _ hx421_5)).trans hx421_5
       replace hx421_6 := (HB.out.cell (World.block_lt_of_cell? w _ hx421_6)).trans hx421_6
       replace hx421_7 := (HB.out.cell (World.block_lt_of_cell? w _ hx421_7)).trans hx421_7
       replace hx421_8 := (HB.out.cell (World.block_lt_of_cell? w _ hx421_8)).trans hx421_8
       replace hx421_9 := (HB.out.cell (World.block_lt_of_cell? w _ hx421_9)).trans hx421_9
       replace p421 := eq_true p421
       replace q421 := eq_true q421
       go_upto_region 10 with (first | ((with_reducible refine gate_dst (N := 11) rfl ?_); refine box_event ?hg (N := 11) ?hd (cs := #[.string (⟨#[]⟩ : ByteArray), .string (⟨#[]⟩ : ByteArray), .int .i64 0, .int .i64 0, .int .i64 0, .int .i64 0, .int .i64 0, .int .i64 0, .int .i64 0, .bool false]) (t := 34) ?hr ?_; (case hd => rfl); (case hg => rfl); (case hr => first | (go_simp; done) | (go_simp; rfl)); intro gb422 hg w13 hbox hb; have n0_ := Aside0.mk (Kd.R_below (Kd.R_elderB (by (with_reducible repeat (first | apply Kd.R_alloc | apply Kd.R_drewN | apply Kd.R_drew)); exact HO_9.out) gb422 (Nat.le_of_eq hg.symm)) hb); have n1_ := Aside0.mk (below_step (by repeat (first | (with_reducible first | exact HB.out | apply below_alloc | apply pw_below_drewN | apply below_drew1) | exact HB.out)) hb); have n2_ := Aside0.mk (hbox); have n3_ := Aside0.mk ((by rw [hg]; exact (below_size (by repeat (first | (with_reducible first | exact HB.out | apply below_alloc | apply pw_below_drewN | apply below_drew1) | exact HB.out))) : w.heap.size ≤ gb422)); have n4_ := Aside0.mk ((by rw [hg]; exact (below_size (by repeat (first | (with_reducible first | exact HB.out | apply below_alloc | apply pw_below_drewN | apply below_drew1) | exact HB.out))) : w.heap.size ≤ gb422)); clear HO_9; clear HB; have HO_9 := n0_; have HB := n1_; have BK422 := n2_; have GW422 := n3_; have GE422 := n4_; clear n0_ n1_ n2_ n3_ n4_; clear hb hbox hg; have hcz14_0 : w13.cell? ⟨gb422, 0, none⟩ = some (.string (⟨#[]⟩ : ByteArray)) := (blk_cell BK422.out 0).trans rfl; have hcz14_1 : w13.cell? ⟨gb422, 1, none⟩ = some (.string (⟨#[]⟩ : ByteArray)) := (blk_cell BK422.out 1).trans rfl; have hcz14_2 : w13.cell? ⟨gb422, 2, none⟩ = some (.int .i64 0) := (blk_cell BK422.out 2).trans rfl; have hcz14_3 : w13.cell? ⟨gb422, 3, none⟩ = some (.int .i64 0) := (blk_cell BK422.out 3).trans rfl; have hcz14_4 : w13.cell? ⟨gb422, 4, none⟩ = some (.int .i64 0) := (blk_cell BK422.out 4).trans rfl; have hcz14_5 : w13.cell? ⟨gb422, 5, none⟩ = some (.int .i64 0) := (blk_cell BK422.out 5).trans rfl; have hcz14_6 : w13.cell? ⟨gb422, 6, none⟩ = some (.int .i64 0) := (blk_cell BK422.out 6).trans rfl; have hcz14_7 : w13.cell? ⟨gb422, 7, none⟩ = some (.int .i64 0) := (blk_cell BK422.out 7).trans rfl; have hcz14_8 : w13.cell? ⟨gb422, 8, none⟩ = some (.int .i64 0) := (blk_cell BK422.out 8).trans rfl; have hcz14_9 : w13.cell? ⟨gb422, 9, none⟩ = some (.bool false) := (blk_cell BK422.out 9).trans rfl; have hfz14_0 := blk_frozen BK422.out 0; have hfz14_1 := blk_frozen BK422.out 1; have hfz14_2 := blk_frozen BK422.out 2; have hfz14_3 := blk_frozen BK422.out 3; have hfz14_4 := blk_frozen BK422.out 4; have hfz14_5 := blk_frozen BK422.out 5; have hfz14_6 := blk_frozen BK422.out 6; have hfz14_7 := blk_frozen BK422.out 7; have hfz14_8 := blk_frozen BK422.out 8; have hfz14_9 := blk_frozen BK422.out 9))
       (try simp only [Act.put, List.setIfInBounds_toArray, List.set_cons_zero, List.set_cons_succ])
       go_cut [] (fun wc => ∃ (kq : Nat) (x423006_11 : Int), Aside0 (flagstonelaw39_ScorePredictsAny.j1 kq l0 a1 a2 a3 x9_1 x10_1 ((rd_T34 l0 x10_1).f0.f0) ((rd_T34 l0 x10_1).f0.f1) ((rd_T34 l0 x10_1).f0.f2) ((rd_T34 l0 x10_1).f0.f3) ((rd_T34 l0 x10_1).f0.f4) ((rd_T34 l0 x10_1).f0.f5) x423006_11 ((rd_T34 l0 x10_1).f2) ((rd_T34 l0 x10_1).f3) ((rd_T34 l0 x10_1).f4) = some r) ∧ Aside0 (kq ≤ k1) ∧ Aside0 (Kd.R k34 34 wc w.heap.size (fun k_ => k_ ≠ gb422) u9 x9_1) ∧ Aside0 (wc.heap[gb422]? = some (.cells #[.string ((rd_T34 l0 x10_1).f0.f0), .string ((rd_T34 l0 x10_1).f0.f1), .int .i64 ((rd_T34 l0 x10_1).f0.f2), .int .i64 ((rd_T34 l0 x10_1).f0.f3), .int .i64 ((rd_T34 l0 x10_1).f0.f4), .int .i64 ((rd_T34 l0 x10_1).f0.f5), .int .i64 x423006_11, .int .i64 ((rd_T34 l0 x10_1).f2), .int .i64 ((rd_T34 l0 x10_1).f3), .bool ((rd_T34 l0 x10_1).f4)] 34 (0, 0))) ∧ Aside0 (Below w.heap.size w wc))
       case first =>
        have H := HC12.out
        clear HC12
        have H' := Aside0.mk H
        clear H
        have hcz15_0 : w13.cell? ⟨gb422, 0, none⟩ = some (.string (⟨#[]⟩ : ByteArray)) := (blk_cell BK422.out 0).trans rfl
        have hcz15_1 : w13.cell? ⟨gb422, 1, none⟩ = some (.string (⟨#[]⟩ : ByteArray)) := (blk_cell BK422.out 1).trans rfl
        have hcz15_2 : w13.cell? ⟨gb422, 2, none⟩ = some (.int .i64 0) := (blk_cell BK422.out 2).trans rfl
        have hcz15_3 : w13.cell? ⟨gb422, 3, none⟩ = some (.int .i64 0) := (blk_cell BK422.out 3).trans rfl
        have hcz15_4 : w13.cell? ⟨gb422, 4, none⟩ = some (.int .i64 0) := (blk_cell BK422.out 4).trans rfl
        have hcz15_5 : w13.cell? ⟨gb422, 5, none⟩ = some (.int .i64 0) := (blk_cell BK422.out 5).trans rfl
        have hcz15_6 : w13.cell? ⟨gb422, 6, none⟩ = some (.int .i64 0) := (blk_cell BK422.out 6).trans rfl
        have hcz15_7 : w13.cell? ⟨gb422, 7, none⟩ = some (.int .i64 0) := (blk_cell BK422.out 7).trans rfl
        have hcz15_8 : w13.cell? ⟨gb422, 8, none⟩ = some (.int .i64 0) := (blk_cell BK422.out 8).trans rfl
        have hcz15_9 : w13.cell? ⟨gb422, 9, none⟩ = some (.bool false) := (blk_cell BK422.out 9).trans rfl
        have hfz15_0 := blk_frozen BK422.out 0
        have hfz15_1 := blk_frozen BK422.out 1
        have hfz15_2 := blk_frozen BK422.out 2
        have hfz15_3 := blk_frozen BK422.out 3
        have hfz15_4 := blk_frozen BK422.out 4
        have hfz15_5 := blk_frozen BK422.out 5
        have hfz15_6 := blk_frozen BK422.out 6
        have hfz15_7 := blk_frozen BK422.out 7
        have hfz15_8 := blk_frozen BK422.out 8
        have hfz15_9 := blk_frozen BK422.out 9
        go_wp2
        go_meet
        case rel => exact ⟨_, (Int.tmod ((rd_T34 l0 x10_1).f1) 1099511627777), H', ⟨by have := HK1.out; first | omega | exact Nat.le_refl _⟩, ⟨by (with_reducible repeat (first | apply Kd.R_alloc | apply Kd.R_drewN | apply Kd.R_drew)); exact Kd.R_mono (Kd.R_far (p := ⟨gb422, 6, none⟩) (Kd.R_far (p := ⟨gb422, 9, none⟩) (Kd.R_far (p := ⟨gb422, 8, none⟩) (Kd.R_far (p := ⟨gb422, 7, none⟩) (Kd.R_far (p := ⟨gb422, 6, none⟩) (Kd.R_far (p := ⟨gb422, 5, none⟩) (Kd.R_far (p := ⟨gb422, 4, none⟩) (Kd.R_far (p := ⟨gb422, 3, none⟩) (Kd.R_far (p := ⟨gb422, 2, none⟩) (Kd.R_far (p := ⟨gb422, 1, none⟩) (Kd.R_far (p := ⟨gb422, 0, none⟩) (Kd.R_mono HO_9.out (fun k_ hk => (⟨hk, hk.2⟩ : _ ∧ k_ ≠ gb422))) (fun _ hk => hk.2) (.string ((rd_T34 l0 x10_1).f0.f0))) (fun _ hk => hk.2) (.string ((rd_T34 l0 x10_1).f0.f1))) (fun _ hk => hk.2) (.int .i64 ((rd_T34 l0 x10_1).f0.f2))) (fun _ hk => hk.2) (.int .i64 ((rd_T34 l0 x10_1).f0.f3))) (fun _ hk => hk.2) (.int .i64 ((rd_T34 l0 x10_1).f0.f4))) (fun _ hk => hk.2) (.int .i64 ((rd_T34 l0 x10_1).f0.f5))) (fun _ hk => hk.2) (.int .i64 ((rd_T34 l0 x10_1).f1))) (fun _ hk => hk.2) (.int .i64 ((rd_T34 l0 x10_1).f2))) (fun _ hk => hk.2) (.int .i64 ((rd_T34 l0 x10_1).f3))) (fun _ hk => hk.2) (.bool ((rd_T34 l0 x10_1).f4))) (fun _ hk => hk.2) (.int .i64 (Int.tmod ((rd_T34 l0 x10_1).f1) 1099511627777))) (fun _ hk => hk.1.2)⟩, ⟨by (with_reducible repeat (first | refine blk_drewN ?_ _ | refine blk_drew ?_ | refine blk_alloc ?_ _)); refine blk_put (cs := #[.string ((rd_T34 l0 x10_1).f0.f0), .string ((rd_T34 l0 x10_1).f0.f1), .int .i64 ((rd_T34 l0 x10_1).f0.f2), .int .i64 ((rd_T34 l0 x10_1).f0.f3), .int .i64 ((rd_T34 l0 x10_1).f0.f4), .int .i64 ((rd_T34 l0 x10_1).f0.f5), .int .i64 ((rd_T34 l0 x10_1).f1), .int .i64 ((rd_T34 l0 x10_1).f2), .int .i64 ((rd_T34 l0 x10_1).f3), .bool ((rd_T34 l0 x10_1).f4)]) ?_ 6 _ rfl; (with_reducible repeat (first | refine blk_drewN ?_ _ | refine blk_drew ?_ | refine blk_alloc ?_ _)); refine blk_put (cs := #[.string ((rd_T34 l0 x10_1).f0.f0), .string ((rd_T34 l0 x10_1).f0.f1), .int .i64 ((rd_T34 l0 x10_1).f0.f2), .int .i64 ((rd_T34 l0 x10_1).f0.f3), .int .i64 ((rd_T34 l0 x10_1).f0.f4), .int .i64 ((rd_T34 l0 x10_1).f0.f5), .int .i64 ((rd_T34 l0 x10_1).f1), .int .i64 ((rd_T34 l0 x10_1).f2), .int .i64 ((rd_T34 l0 x10_1).f3), .bool false]) ?_ 9 _ rfl; (with_reducible repeat (first | refine blk_drewN ?_ _ | refine blk_drew ?_ | refine blk_alloc ?_ _)); refine blk_put (cs := #[.string ((rd_T34 l0 x10_1).f0.f0), .string ((rd_T34 l0 x10_1).f0.f1), .int .i64 ((rd_T34 l0 x10_1).f0.f2), .int .i64 ((rd_T34 l0 x10_1).f0.f3), .int .i64 ((rd_T34 l0 x10_1).f0.f4), .int .i64 ((rd_T34 l0 x10_1).f0.f5), .int .i64 ((rd_T34 l0 x10_1).f1), .int .i64 ((rd_T34 l0 x10_1).f2), .int .i64 0, .bool false]) ?_ 8 _ rfl; (with_reducible repeat (first | refine blk_drewN ?_ _ | refine blk_drew ?_ | refine blk_alloc ?_ _)); refine blk_put (cs := #[.string ((rd_T34 l0 x10_1).f0.f0), .string ((rd_T34 l0 x10_1).f0.f1), .int .i64 ((rd_T34 l0 x10_1).f0.f2), .int .i64 ((rd_T34 l0 x10_1).f0.f3), .int .i64 ((rd_T34 l0 x10_1).f0.f4), .int .i64 ((rd_T34 l0 x10_1).f0.f5), .int .i64 ((rd_T34 l0 x10_1).f1), .int .i64 0, .int .i64 0, .bool false]) ?_ 7 _ rfl; (with_reducible repeat (first | refine blk_drewN ?_ _ | refine blk_drew ?_ | refine blk_alloc ?_ _)); refine blk_put (cs := #[.string ((rd_T34 l0 x10_1).f0.f0), .string ((rd_T34 l0 x10_1).f0.f1), .int .i64 ((rd_T34 l0 x10_1).f0.f2), .int .i64 ((rd_T34 l0 x10_1).f0.f3), .int .i64 ((rd_T34 l0 x10_1).f0.f4), .int .i64 ((rd_T34 l0 x10_1).f0.f5), .int .i64 0, .int .i64 0, .int .i64 0, .bool false]) ?_ 6 _ rfl; (with_reducible repeat (first | refine blk_drewN ?_ _ | refine blk_drew ?_ | refine blk_alloc ?_ _)); refine blk_put (cs := #[.string ((rd_T34 l0 x10_1).f0.f0), .string ((rd_T34 l0 x10_1).f0.f1), .int .i64 ((rd_T34 l0 x10_1).f0.f2), .int .i64 ((rd_T34 l0 x10_1).f0.f3), .int .i64 ((rd_T34 l0 x10_1).f0.f4), .int .i64 0, .int .i64 0, .int .i64 0, .int .i64 0, .bool false]) ?_ 5 _ rfl; (with_reducible repeat (first | refine blk_drewN ?_ _ | refine blk_drew ?_ | refine blk_alloc ?_ _)); refine blk_put (cs := #[.string ((rd_T34 l0 x10_1).f0.f0), .string ((rd_T34 l0 x10_1).f0.f1), .int .i64 ((rd_T34 l0 x10_1).f0.f2), .int .i64 ((rd_T34 l0 x10_1).f0.f3), .int .i64 0, .int .i64 0, .int .i64 0, .int .i64 0, .int .i64 0, .bool false]) ?_ 4 _ rfl; (with_reducible repeat (first | refine blk_drewN ?_ _ | refine blk_drew ?_ | refine blk_alloc ?_ _)); refine blk_put (cs := #[.string ((rd_T34 l0 x10_1).f0.f0), .string ((rd_T34 l0 x10_1).f0.f1), .int .i64 ((rd_T34 l0 x10_1).f0.f2), .int .i64 0, .int .i64 0, .int .i64 0, .int .i64 0, .int .i64 0, .int .i64 0, .bool false]) ?_ 3 _ rfl; (with_reducible repeat (first | refine blk_drewN ?_ _ | refine blk_drew ?_ | refine blk_alloc ?_ _)); refine blk_put (cs := #[.string ((rd_T34 l0 x10_1).f0.f0), .string ((rd_T34 l0 x10_1).f0.f1), .int .i64 0, .int .i64 0, .int .i64 0, .int .i64 0, .int .i64 0, .int .i64 0, .int .i64 0, .bool false]) ?_ 2 _ rfl; (with_reducible repeat (first | refine blk_drewN ?_ _ | refine blk_drew ?_ | refine blk_alloc ?_ _)); refine blk_put (cs := #[.string ((rd_T34 l0 x10_1).f0.f0), .string (⟨#[]⟩ : ByteArray), .int .i64 0, .int .i64 0, .int .i64 0, .int .i64 0, .int .i64 0, .int .i64 0, .int .i64 0, .bool false]) ?_ 1 _ rfl; (with_reducible repeat (first | refine blk_drewN ?_ _ | refine blk_drew ?_ | refine blk_alloc ?_ _)); refine blk_put (cs := #[.string (⟨#[]⟩ : ByteArray), .string (⟨#[]⟩ : ByteArray), .int .i64 0, .int .i64 0, .int .i64 0, .int .i64 0, .int .i64 0, .int .i64 0, .int .i64 0, .bool false]) ?_ 0 _ rfl; (with_reducible repeat (first | refine blk_drewN ?_ _ | refine blk_drew ?_ | refine blk_alloc ?_ _)); exact BK422.out⟩, ⟨by repeat (first | (with_reducible first | exact HB.out | apply below_alloc | apply pw_below_drewN | apply below_drew1 | refine below_set ?_ GE422.out) | exact HB.out)⟩⟩
       case rest =>
        clear HC12
        try clear c1
        try clear p2
        try clear c4
        try clear p4
        try clear q4
        try clear hx4
        try clear c6
        try clear p6
        try clear c7
        try clear c7b0
        try clear c7b1
        try clear c10
        try clear c10b0
        try clear c11
        try clear c11b0
        try clear hcz14_0
        try clear hcz14_1
        try clear hcz14_2
        try clear hcz14_3
        try clear hcz14_4
        try clear hcz14_5
        try clear hcz14_6
        try clear hcz14_7
        try clear hcz14_8
        try clear hcz14_9
        try clear hcz15_0
        try clear hcz15_1
        try clear hcz15_2
        try clear hcz15_3
        try clear hcz15_4
        try clear hcz15_5
        try clear hcz15_6
        try clear hcz15_7
        try clear hcz15_8
        try clear hcz15_9
        try clear hfz14_0
        try clear hfz14_1
        try clear hfz14_2
        try clear hfz14_3
        try clear hfz14_4
        try clear hfz14_5
        try clear hfz14_6
        try clear hfz14_7
        try clear hfz14_8
        try clear hfz14_9
        try clear hfz15_0
        try clear hfz15_1
        try clear hfz15_2
        try clear hfz15_3
        try clear hfz15_4
        try clear hfz15_5
        try clear hfz15_6
        try clear hfz15_7
        try clear hfz15_8
        try clear hfz15_9
        try clear hx421_0
        try clear hx421_1
        try clear hx421_2
        try clear hx421_3
        try clear hx421_4
        try clear hx421_5
        try clear hx421_6
        try clear hx421_7
        try clear hx421_8
        try clear hx421_9
        try clear p2
        try clear p421
        try clear p6
        try clear q421
        obtain ⟨kq, x423006_11, HA, HJ11, HO_9, BK422, HB⟩ := hcut
        cases kq with
        | zero => exact absurd HA.out (by simp [flagstonelaw39_ScorePredictsAny.j1])
        | succ kj11 =>
         have H := HA.out
         clear HA
         simp only [flagstonelaw39_ScorePredictsAny.j1] at H
         have HC16 := Aside0.mk H
         clear H
         go_upto_region 11 with (fail)
         go_cut [] (fun wc => ∃ (kq : Nat) (x423004_15 : Int), Aside0 (flagstonelaw39_ScorePredictsAny.j2 kq l0 a1 a2 a3 x9_1 x10_1 ((rd_T34 l0 x10_1).f0.f0) ((rd_T34 l0 x10_1).f0.f1) ((rd_T34 l0 x10_1).f0.f2) ((rd_T34 l0 x10_1).f0.f3) x423004_15 ((rd_T34 l0 x10_1).f0.f5) x423006_11 ((rd_T34 l0 x10_1).f2) ((rd_T34 l0 x10_1).f3) ((rd_T34 l0 x10_1).f4) = some r) ∧ Aside0 (kq ≤ kj11) ∧ Aside0 (Kd.R k34 34 wc w.heap.size (fun k_ => k_ ≠ gb422) u9 x9_1) ∧ Aside0 (wc.heap[gb422]? = some (.cells #[.string ((rd_T34 l0 x10_1).f0.f0), .string ((rd_T34 l0 x10_1).f0.f1), .int .i64 ((rd_T34 l0 x10_1).f0.f2), .int .i64 ((rd_T34 l0 x10_1).f0.f3), .int .i64 x423004_15, .int .i64 ((rd_T34 l0 x10_1).f0.f5), .int .i64 x423006_11, .int .i64 ((rd_T34 l0 x10_1).f2), .int .i64 ((rd_T34 l0 x10_1).f3), .bool ((rd_T34 l0 x10_1).f4)] 34 (0, 0))) ∧ Aside0 (Below w.heap.size w wc))
         case first =>
          have H := HC16.out
          clear HC16
          have H' := Aside0.mk H
          clear H
          have hcz17_0 : wc.cell? ⟨gb422, 0, none⟩ = some (.string ((rd_T34 l0 x10_1).f0.f0)) := (blk_cell BK422.out 0).trans rfl
          have hcz17_1 : wc.cell? ⟨gb422, 1, none⟩ = some (.string ((rd_T34 l0 x10_1).f0.f1)) := (blk_cell BK422.out 1).trans rfl
          have hcz17_2 : wc.cell? ⟨gb422, 2, none⟩ = some (.int .i64 ((rd_T34 l0 x10_1).f0.f2)) := (blk_cell BK422.out 2).trans rfl
          have hcz17_3 : wc.cell? ⟨gb422, 3, none⟩ = some (.int .i64 ((rd_T34 l0 x10_1).f0.f3)) := (blk_cell BK422.out 3).trans rfl
          have hcz17_4 : wc.cell? ⟨gb422, 4, none⟩ = some (.int .i64 ((rd_T34 l0 x10_1).f0.f4)) := (blk_cell BK422.out 4).trans rfl
          have hcz17_5 : wc.cell? ⟨gb422, 5, none⟩ = some (.int .i64 ((rd_T34 l0 x10_1).f0.f5)) := (blk_cell BK422.out 5).trans rfl
          have hcz17_6 : wc.cell? ⟨gb422, 6, none⟩ = some (.int .i64 x423006_11) := (blk_cell BK422.out 6).trans rfl
          have hcz17_7 : wc.cell? ⟨gb422, 7, none⟩ = some (.int .i64 ((rd_T34 l0 x10_1).f2)) := (blk_cell BK422.out 7).trans rfl
          have hcz17_8 : wc.cell? ⟨gb422, 8, none⟩ = some (.int .i64 ((rd_T34 l0 x10_1).f3)) := (blk_cell BK422.out 8).trans rfl
          have hcz17_9 : wc.cell? ⟨gb422, 9, none⟩ = some (.bool ((rd_T34 l0 x10_1).f4)) := (blk_cell BK422.out 9).trans rfl
          have hfz17_0 := blk_frozen BK422.out 0
          have hfz17_1 := blk_frozen BK422.out 1
          have hfz17_2 := blk_frozen BK422.out 2
          have hfz17_3 := blk_frozen BK422.out 3
          have hfz17_4 := blk_frozen BK422.out 4
          have hfz17_5 := blk_frozen BK422.out 5
          have hfz17_6 := blk_frozen BK422.out 6
          have hfz17_7 := blk_frozen BK422.out 7
          have hfz17_8 := blk_frozen BK422.out 8
          have hfz17_9 := blk_frozen BK422.out 9
          go_wp2
          go_meet
          case rel => exact ⟨_, (wrap64 (1 + (Int.tmod (wrap64 (x10_1 * (wrap64 (a2)))) 3))), H', ⟨by have := HK1.out; have := HJ11.out; first | omega | exact Nat.le_refl _⟩, ⟨by (with_reducible repeat (first | apply Kd.R_alloc | apply Kd.R_drewN | apply Kd.R_drew)); exact Kd.R_mono (Kd.R_far (p := ⟨gb422, 4, none⟩) (Kd.R_mono HO_9.out (fun k_ hk => (⟨hk, hk⟩ : _ ∧ k_ ≠ gb422))) (fun _ hk => hk.2) (.int .i64 (wrap64 (1 + (Int.tmod (wrap64 (x10_1 * (wrap64 (a2)))) 3))))) (fun _ hk => hk.1)⟩, ⟨by (with_reducible repeat (first | refine blk_drewN ?_ _ | refine blk_drew ?_ | refine blk_alloc ?_ _)); refine blk_put (cs := #[.string ((rd_T34 l0 x10_1).f0.f0), .string ((rd_T34 l0 x10_1).f0.f1), .int .i64 ((rd_T34 l0 x10_1).f0.f2), .int .i64 ((rd_T34 l0 x10_1).f0.f3), .int .i64 ((rd_T34 l0 x10_1).f0.f4), .int .i64 ((rd_T34 l0 x10_1).f0.f5), .int .i64 x423006_11, .int .i64 ((rd_T34 l0 x10_1).f2), .int .i64 ((rd_T34 l0 x10_1).f3), .bool ((rd_T34 l0 x10_1).f4)]) ?_ 4 _ rfl; (with_reducible repeat (first | refine blk_drewN ?_ _ | refine blk_drew ?_ | refine blk_alloc ?_ _)); exact BK422.out⟩, ⟨by repeat (first | (with_reducible first | exact HB.out | apply below_alloc | apply pw_below_drewN | apply below_drew1 | refine below_set ?_ GE422.out) | exact HB.out)⟩⟩
         case rest =>
          clear HC16
          try clear c1
          try clear p2
          try clear c4
          try clear p4
          try clear q4
          try clear hx4
          try clear c6
          try clear p6
          try clear c7
          try clear c7b0
          try clear c7b1
          try clear c10
          try clear c10b0
          try clear c11
          try clear c11b0
          try clear hcz14_0
          try clear hcz14_1
          try clear hcz14_2
          try clear hcz14_3
          try clear hcz14_4
          try clear hcz14_5
          try clear hcz14_6
          try clear hcz14_7
          try clear hcz14_8
          try clear hcz14_9
          try clear hcz15_0
          try clear hcz15_1
          try clear hcz15_2
          try clear hcz15_3
          try clear hcz15_4
          try clear hcz15_5
          try clear hcz15_6
          try clear hcz15_7
          try clear hcz15_8
          try clear hcz15_9
          try clear hcz17_0
          try clear hcz17_1
          try clear hcz17_2
          try clear hcz17_3
          try clear hcz17_4
          try clear hcz17_5
          try clear hcz17_6
          try clear hcz17_7
          try clear hcz17_8
          try clear hcz17_9
          try clear hfz14_0
          try clear hfz14_1
          try clear hfz14_2
          try clear hfz14_3
          try clear hfz14_4
          try clear hfz14_5
          try clear hfz14_6
          try clear hfz14_7
          try clear hfz14_8
          try clear hfz14_9
          try clear hfz15_0
          try clear hfz15_1
          try clear hfz15_2
          try clear hfz15_3
          try clear hfz15_4
          try clear hfz15_5
          try clear hfz15_6
          try clear hfz15_7
          try clear hfz15_8
          try clear hfz15_9
          try clear hfz17_0
          try clear hfz17_1
          try clear hfz17_2
          try clear hfz17_3
          try clear hfz17_4
          try clear hfz17_5
          try clear hfz17_6
          try clear hfz17_7
          try clear hfz17_8
          try clear hfz17_9
          try clear hx421_0
          try clear hx421_1
          try clear hx421_2
          try clear hx421_3
          try clear hx421_4
          try clear hx421_5
          try clear hx421_6
          try clear hx421_7
          try clear hx421_8
          try clear hx421_9
          try clear p2
          try clear p4
          try clear p421
          try clear p6
          try clear q4
          try clear q421
          obtain ⟨kq, x423004_15, HA, HJ15, HO_9, BK422, HB⟩ := hcut
          cases kq with
          | zero => exact absurd HA.out (by simp [flagstonelaw39_ScorePredictsAny.j2])
          | succ kj15 =>
           have H := HA.out
           clear HA
           simp only [flagstonelaw39_ScorePredictsAny.j2] at H
           by_cases c18 : x9_1.length < 1466015503701
           ·rw [if_pos c18] at H
            have LMc18 := Aside0.mk c18
            clear c18
            obtain ⟨y423, hy423⟩ : ∃ y_ : List (S34), y_ = (x9_1 ++ [(⟨(⟨((rd_T34 l0 x10_1).f0.f0), ((rd_T34 l0 x10_1).f0.f1), ((rd_T34 l0 x10_1).f0.f2), ((rd_T34 l0 x10_1).f0.f3), x423004_15, ((rd_T34 l0 x10_1).f0.f5)⟩ : S32), x423006_11, ((rd_T34 l0 x10_1).f2), ((rd_T34 l0 x10_1).f3), ((rd_T34 l0 x10_1).f4)⟩ : S34)]) := ⟨_, rfl⟩
            replace H : (flagstonelaw39_ScorePredictsAny.l0 kj15 l0 a1 a2 a3 y423 (wrap64 (x10_1 + 1))) = some r := by first | (rw [hy423]; with_reducible exact H) | (have H2_ := (Option.bind_some _ _).symm.trans H; rw [hy423]; with_reducible exact H2_) | (have H2_ := (Option.bind_some _ _).symm.trans H; with_reducible exact H2_) | with_reducible exact H | (rw [hy423]; exact H) | exact H
            have Ny423 := Aside0.mk hy423
            clear hy423
            have H' := Aside0.mk H
            clear H
            have hcz19_0 : wc.cell? ⟨gb422, 0, none⟩ = some (.string ((rd_T34 l0 x10_1).f0.f0)) := (blk_cell BK422.out 0).trans rfl
            have hcz19_1 : wc.cell? ⟨gb422, 1, none⟩ = some (.string ((rd_T34 l0 x10_1).f0.f1)) := (blk_cell BK422.out 1).trans rfl
            have hcz19_2 : wc.cell? ⟨gb422, 2, none⟩ = some (.int .i64 ((rd_T34 l0 x10_1).f0.f2)) := (blk_cell BK422.out 2).trans rfl
            have hcz19_3 : wc.cell? ⟨gb422, 3, none⟩ = some (.int .i64 ((rd_T34 l0 x10_1).f0.f3)) := (blk_cell BK422.out 3).trans rfl
            have hcz19_4 : wc.cell? ⟨gb422, 4, none⟩ = some (.int .i64 x423004_15) := (blk_cell BK422.out 4).trans rfl
            have hcz19_5 : wc.cell? ⟨gb422, 5, none⟩ = some (.int .i64 ((rd_T34 l0 x10_1).f0.f5)) := (blk_cell BK422.out 5).trans rfl
            have hcz19_6 : wc.cell? ⟨gb422, 6, none⟩ = some (.int .i64 x423006_11) := (blk_cell BK422.out 6).trans rfl
            have hcz19_7 : wc.cell? ⟨gb422, 7, none⟩ = some (.int .i64 ((rd_T34 l0 x10_1).f2)) := (blk_cell BK422.out 7).trans rfl
            have hcz19_8 : wc.cell? ⟨gb422, 8, none⟩ = some (.int .i64 ((rd_T34 l0 x10_1).f3)) := (blk_cell BK422.out 8).trans rfl
            have hcz19_9 : wc.cell? ⟨gb422, 9, none⟩ = some (.bool ((rd_T34 l0 x10_1).f4)) := (blk_cell BK422.out 9).trans rfl
            have hfz19_0 := blk_frozen BK422.out 0
            have hfz19_1 := blk_frozen BK422.out 1
            have hfz19_2 := blk_frozen BK422.out 2
            have hfz19_3 := blk_frozen BK422.out 3
            have hfz19_4 := blk_frozen BK422.out 4
            have hfz19_5 := blk_frozen BK422.out 5
            have hfz19_6 := blk_frozen BK422.out 6
            have hfz19_7 := blk_frozen BK422.out 7
            have hfz19_8 := blk_frozen BK422.out 8
            have hfz19_9 := blk_frozen BK422.out 9
            go_wp2_with (first | ((with_reducible refine gate_builtin (b := .append) (xs := #[.tmp 40, .tmp 42]) rfl ?_); at_builtin; refine Kd.R_append k34 (w0 := w) w.heap.size rfl (.tmp 40) (.tmp 42) 25 34 (.agg #[(.string ⟨#[]⟩), (.string ⟨#[]⟩), (.int .i64 0), (.int .i64 0), (.int .i64 0), (.int .i64 0), (.int .i64 0), (.int .i64 0), (.int .i64 0), (.bool false)]) 96 rfl Try.underlying25 info34 rfl (by decide) (by omega) u9 x9_1 (⟨(⟨((rd_T34 l0 x10_1).f0.f0), ((rd_T34 l0 x10_1).f0.f1), ((rd_T34 l0 x10_1).f0.f2), ((rd_T34 l0 x10_1).f0.f3), x423004_15, ((rd_T34 l0 x10_1).f0.f5)⟩ : S32), x423006_11, ((rd_T34 l0 x10_1).f2), ((rd_T34 l0 x10_1).f3), ((rd_T34 l0 x10_1).f4)⟩ : S34) [.string ((rd_T34 l0 x10_1).f0.f0), .string ((rd_T34 l0 x10_1).f0.f1), .int .i64 ((rd_T34 l0 x10_1).f0.f2), .int .i64 ((rd_T34 l0 x10_1).f0.f3), .int .i64 x423004_15, .int .i64 ((rd_T34 l0 x10_1).f0.f5), .int .i64 x423006_11, .int .i64 ((rd_T34 l0 x10_1).f2), .int .i64 ((rd_T34 l0 x10_1).f3), .bool ((rd_T34 l0 x10_1).f4)] (fun k_ => k_ ≠ gb422) (fun _ => False) rfl rfl ?aP (fun _ hk => hk.elim) ?aF ?aO ?aB ?aS ?aL ?_; (case aP => exact k34_mkM _ _ _ (⟨(⟨((rd_T34 l0 x10_1).f0.f0), ((rd_T34 l0 x10_1).f0.f1), ((rd_T34 l0 x10_1).f0.f2), ((rd_T34 l0 x10_1).f0.f3), x423004_15, ((rd_T34 l0 x10_1).f0.f5)⟩ : S32), x423006_11, ((rd_T34 l0 x10_1).f2), ((rd_T34 l0 x10_1).f3), ((rd_T34 l0 x10_1).f4)⟩ : S34)); (case aB => exact (by repeat (first | (with_reducible first | exact HB.out | apply below_alloc | apply pw_below_drewN | apply below_drew1 | refine below_set ?_ GE422.out) | exact HB.out))); (case aF => exact (fun k_ hk => Kd.freshB (g := gb422) (o := .cells #[.string ((rd_T34 l0 x10_1).f0.f0), .string ((rd_T34 l0 x10_1).f0.f1), .int .i64 ((rd_T34 l0 x10_1).f0.f2), .int .i64 ((rd_T34 l0 x10_1).f0.f3), .int .i64 x423004_15, .int .i64 ((rd_T34 l0 x10_1).f0.f5), .int .i64 x423006_11, .int .i64 ((rd_T34 l0 x10_1).f2), .int .i64 ((rd_T34 l0 x10_1).f3), .bool ((rd_T34 l0 x10_1).f4)] 34 (0, 0)) (by (with_reducible repeat (first | refine blk_drewN ?_ _ | refine blk_drew ?_ | refine blk_alloc ?_ _)); exact BK422.out) k_ hk)); (case aO => exact (by (with_reducible repeat (first | apply Kd.R_alloc | apply Kd.R_drewN | apply Kd.R_drew)); exact HO_9.out)); (case aS => exact (below_size (by repeat (first | (with_reducible first | exact HB.out | apply below_alloc | apply pw_below_drewN | apply below_drew1 | refine below_set ?_ GE422.out) | exact HB.out)))); (case aL => have := LMc18.out; omega); intro v424 w20 ho hb hg hat; rw [← Ny423.out] at ho; have n0_ := Aside0.mk (blk_grown (g := gb422) (o := .cells #[.string ((rd_T34 l0 x10_1).f0.f0), .string ((rd_T34 l0 x10_1).f0.f1), .int .i64 ((rd_T34 l0 x10_1).f0.f2), .int .i64 ((rd_T34 l0 x10_1).f0.f3), .int .i64 x423004_15, .int .i64 ((rd_T34 l0 x10_1).f0.f5), .int .i64 x423006_11, .int .i64 ((rd_T34 l0 x10_1).f2), .int .i64 ((rd_T34 l0 x10_1).f3), .bool ((rd_T34 l0 x10_1).f4)] 34 (0, 0)) (by (with_reducible repeat (first | refine blk_drewN ?_ _ | refine blk_drew ?_ | refine blk_alloc ?_ _)); exact BK422.out) hg (Kd.R_away HO_9.out (fun _ hk => hk))); have n1_ := Aside0.mk (hb); have n2_ := Aside0.mk (ho); clear BK422; clear HB; clear HO_9; have BK422 := n0_; have HB := n1_; have HO425 := n2_; clear n0_ n1_ n2_; clear ho hb hg hat))
            go_roundg kj15
            case measure => have := HK1.out; have := HJ11.out; have := HJ15.out; omega
            case rel => exact ⟨(y423), (wrap64 (x10_1 + 1)), (by first | rfl | (simp; done) | (simp [*]; done) | exact congrArg (Value.int _) (by unfold wrap64; omega)), H', ⟨by have := HK1.out; have := HJ11.out; have := HJ15.out; omega⟩, ⟨by (with_reducible repeat (first | apply Kd.R_alloc | apply Kd.R_drewN | apply Kd.R_drew)); exact Kd.R_mono HO425.out (fun _ hk => trivial)⟩, ⟨by repeat (first | (with_reducible first | exact HB.out | apply below_alloc | apply pw_below_drewN | apply below_drew1 | refine below_set ?_ GE422.out) | exact HB.out)⟩⟩
           ·rw [if_neg c18] at H
            exact absurd H (by simp)
      ·rw [if_neg c11] at H
       exact absurd H (by simp)
     ·rw [if_neg c10] at H
      have c10b0 : decide (x10_1 < (l0.length : Int)) = false := decide_eq_false c10
      clear c10
      by_cases c21 : (wrap64 ((x9_1.length : Int) + 1)) = 0
      ·rw [if_pos c21] at H
       exact absurd H (by simp)
      ·rw [if_neg c21] at H
       have c21b0 : ((wrap64 ((x9_1.length : Int) + 1)) == 0) = false := beq_eq_false_iff_ne.mpr c21
       have c21b1 : ((wrap64 ((x9_1.length : Int) + 1)) != 0) = true := bne_iff_ne.mpr c21
       replace H := Option.bind_eq_some_iff.mp H
       obtain ⟨t426, A220, H⟩ := H
       replace H : ((flagstoneref39_Predict.f k1 x9_1 (Int.tmod (wrap64 (a1)) (wrap64 ((x9_1.length : Int) + 1))) (wrap64 (1 + (Int.tmod (wrap64 (a2)) 2))) (wrap64 (a3))).bind fun t427 => (some (t426 == t427))) = some r := H
       have A22 := Aside0.mk A220
       clear A220
       replace H := Option.bind_eq_some_iff.mp H
       obtain ⟨t427, A230, H⟩ := H
       replace H : (some (t426 == t427)) = some r := H
       have A23 := Aside0.mk A230
       clear A230
       obtain rfl := Option.some.inj H
       obtain ⟨Ao24, co24, eo24⟩ := Kd.R_slice HO_9.out
       subst eo24
       go_wp2_with (first | ((with_reducible refine gate_callee (f := 15) rfl ?_); refine goesL_ (some 58) rfl rfl Try.func15 (by kernel_rfl) rfl #[.slice Ao24 x9_1.length co24, .int .i64 (Int.tmod (wrap64 (a1)) (wrap64 ((x9_1.length : Int) + 1))), .int .i64 (wrap64 (1 + (Int.tmod (wrap64 (a2)) 2))), .int .i64 (wrap64 (a3))] rfl (by (try simp only [List.map_toArray, List.map_cons, List.map_nil]); first | done | rfl | (simp only [List.length_drop, List.length_take]; rfl)) ?_; (with_reducible refine (score_Predict.calls k1 _ _ x9_1 (Int.tmod (wrap64 (a1)) (wrap64 ((x9_1.length : Int) + 1))) (wrap64 (1 + (Int.tmod (wrap64 (a2)) 2))) (wrap64 (a3)) t426 _ ?side1 ?side2 A22.out).mono ?_); (case side1 => repeat (first | exact (Kd.R_reads' HO_9.out).2.2 | (with_reducible refine Kd.C_alloc ?_ _) | (with_reducible refine Kd.C_drewN ?_ _) | (with_reducible refine Kd.C_drew ?_))); (case side2 => exact (Kd.R_reads' HO_9.out).2.1); rintro e w25 ⟨rfl, hb⟩; refine ⟨_, rfl, ?_⟩; have n0_ := Aside0.mk (Kd.R_below (by (with_reducible repeat (first | apply Kd.R_alloc | apply Kd.R_drewN | apply Kd.R_drew)); exact HO_9.out) hb); have n1_ := Aside0.mk (below_step (by repeat (first | (with_reducible first | exact HB.out | apply below_alloc | apply pw_below_drewN | apply below_drew1) | exact HB.out)) hb); clear HO_9; clear HB; have HO_9 := n0_; have HB := n1_; clear n0_ n1_; (try clear hb); (try clear hb2); (try clear hk); (try clear hi)) | ((with_reducible refine gate_callee (f := 16) rfl ?_); refine goesL_ (some 67) rfl rfl Try.func16 (by kernel_rfl) rfl #[.slice Ao24 x9_1.length co24, .int .i64 (Int.tmod (wrap64 (a1)) (wrap64 ((x9_1.length : Int) + 1))), .int .i64 (wrap64 (1 + (Int.tmod (wrap64 (a2)) 2))), .int .i64 (wrap64 (a3))] rfl (by (try simp only [List.map_toArray, List.map_cons, List.map_nil]); first | done | rfl | (simp only [List.length_drop, List.length_take]; rfl)) ?_; (with_reducible refine (flagstoneref39_Predict.calls k1 _ _ x9_1 (Int.tmod (wrap64 (a1)) (wrap64 ((x9_1.length : Int) + 1))) (wrap64 (1 + (Int.tmod (wrap64 (a2)) 2))) (wrap64 (a3)) t427 _ ?side1 ?side2 A23.out).mono ?_); (case side1 => repeat (first | exact (Kd.R_reads' HO_9.out).2.2 | (with_reducible refine Kd.C_alloc ?_ _) | (with_reducible refine Kd.C_drewN ?_ _) | (with_reducible refine Kd.C_drew ?_))); (case side2 => exact (Kd.R_reads' HO_9.out).2.1); rintro e w' ⟨rfl, ⟨nd, rfl⟩⟩; refine ⟨_, rfl, ?_⟩))
       go_ret
       exact ⟨by first | rfl | (simp [errW_none, errW_some] <;> rfl) | (simp [*, errW_none, errW_some] <;> rfl), by repeat (first | (with_reducible first | exact HB.out | apply below_alloc | apply pw_below_drewN | apply below_drew1) | exact HB.out)⟩
 ·replace c6 := Bool.eq_false_iff.mpr c6
  subst c6
  have H1 : (some false) = some r := by rw [if_neg (show ¬ (false = true) by decide)] at H; exact H
  clear H
  have H := H1
  clear H1
  obtain rfl := Option.some.inj H
  go_enter Try.func4, Try.ntmps4
  go_wp2_with (first | ((with_reducible refine gate_callee (f := 11) rfl ?_); refine goesL_ (some 13) rfl rfl Try.func11 (by kernel_rfl) rfl #[] rfl (by (try simp only [List.map_toArray, List.map_cons, List.map_nil]); first | done | rfl | (simp only [List.length_drop, List.length_take]; rfl)) ?_; (with_reducible refine (flagstonelaw39_awake.calls k  false _ A5.out).mono ?_); rintro e w26 ⟨rfl, hb⟩; refine ⟨_, rfl, ?_⟩; have n0_ := Aside0.mk (below_step (by repeat (first | (with_reducible first | exact HB.out | apply below_alloc | apply pw_below_drewN | apply below_drew1) | exact HB.out)) hb); clear HB; have HB := n0_; clear n0_; (try clear hb); (try clear hb2); (try clear hk); (try clear hi)))
  go_ret
  exact ⟨by first | rfl | (simp [errW_none, errW_some] <;> rfl) | (simp [*, errW_none, errW_some] <;> rfl), by repeat (first | (with_reducible first | exact HB.out | apply below_alloc | apply pw_below_drewN | apply below_drew1) | exact HB.out)⟩

/-- THE ONE PURE STATEMENT of flagstonelaw39_ScorePredictsAny: yours. -/
def flagstonelaw39_ScorePredictsAny.Pure : Prop := ∀ (l0 : List (S34)) (a1 : Int) (a2 : Int) (a3 : Int), l0.length ≤ maxLen → (∀ x ∈ l0, ((x.f0.f0.size ≤ maxLen ∧ x.f0.f1.size ≤ maxLen ∧ (Lit.int .i64 x.f0.f2).wf = true ∧ (Lit.int .i64 x.f0.f3).wf = true ∧ (Lit.int .i64 x.f0.f4).wf = true ∧ (Lit.int .i64 x.f0.f5).wf = true) ∧ (Lit.int .i64 x.f1).wf = true ∧ (Lit.int .i64 x.f2).wf = true ∧ (Lit.int .i64 x.f3).wf = true ∧ True)) → (Lit.int .u8 a1).wf = true → (Lit.int .u8 a2).wf = true → (Lit.int .u16 a3).wf = true → ∃ k, flagstonelaw39_ScorePredictsAny.f k l0 a1 a2 a3 = some true

end Go.Proofs.Ytdmhdbebjjhopaa.PA
