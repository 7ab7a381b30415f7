-- Written by a program of this seat's session (wip/tools/ownprint.py, over the kit's printer) out of the translation: functions and their contracts.
import Derived.Test.YtdmhdbebjjhopaaPA0
import Derived.Test.YtdmhdbebjjhopaaPA5
namespace Go.Proofs.Ytdmhdbebjjhopaa.PA
open Go.RowKit Go.Proofs.YtdmhdbebjjhopaaW.PrintWords Go.Proofs.YtdmhdbebjjhopaaW.PrintLast Go.Proofs.YtdmhdbebjjhopaaW.PrintMore
attribute [local go_sem] max2_int min2_int max_two min_two max_three min_three max_four min_four   -- for this text's walks alone
set_option linter.unusedVariables false
set_option linter.unusedSimpArgs false

/-! ### score_All: function 23 -/
mutual
def score_All.l0 : Nat → List (S34) → List (S42) → Int → Bool → List (S37) → List (S34) → Int → Int → Option ((List (S37)))
 | 0, _, _, _, _, _, _, _, _ => none
 | k + 1, x0, x1, x2, x3, x9, x16, x17, x18 => if x18 < x17 then (if 0 ≤ x18 then (if x18 < (x16.length : Int) then (score_All.l1 k x0 x1 x2 x3 x9 x18 x16 x17 x18 x1 (x1.length : Int) 0 ((rd_T34 x16 x18).f0.f0) ((rd_T34 x16 x18).f0.f1) ((rd_T34 x16 x18).f0.f2) ((rd_T34 x16 x18).f0.f3) ((rd_T34 x16 x18).f0.f4) ((rd_T34 x16 x18).f0.f5) ((rd_T34 x16 x18).f1) ((rd_T34 x16 x18).f2) ((rd_T34 x16 x18).f3) ((rd_T34 x16 x18).f4)) else (none)) else (none)) else (some x9)
def score_All.l1 : Nat → List (S34) → List (S42) → Int → Bool → List (S37) → Int → List (S34) → Int → Int → List (S42) → Int → Int → ByteArray → ByteArray → Int → Int → Int → Int → Int → Int → Int → Bool → Option ((List (S37)))
 | 0, _, _, _, _, _, _, _, _, _, _, _, _, _, _, _, _, _, _, _, _, _, _ => none
 | k + 1, x0, x1, x2, x3, x9, x10, x16, x17, x18, x23, x24, x25, x202000, x202001, x202002, x202003, x202004, x202005, x202006, x202007, x202008, x202009 => if x25 < x24 then (if 0 ≤ x25 then (if x25 < (x23.length : Int) then (if ((rd_T42 x23 x25).f0) = x202005 then ((score_Of.f k x0 x10 ((rd_T42 x23 x25).f0) ((rd_T42 x23 x25).f1) ((rd_T42 x23 x25).f2) x2 x3).bind fun bt204 => (if bt204.2.2.2 = true then (if x9.length < 5864062014805 then (score_All.l0 k x0 x1 x2 x3 (x9 ++ [(⟨bt204.1, bt204.2.1, bt204.2.2.1⟩ : S37)]) x16 x17 (wrap64 (x18 + 1))) else (none)) else (score_All.l0 k x0 x1 x2 x3 x9 x16 x17 (wrap64 (x18 + 1))))) else (score_All.l1 k x0 x1 x2 x3 x9 x10 x16 x17 x18 x23 x24 (wrap64 (x25 + 1)) x202000 x202001 x202002 x202003 x202004 x202005 x202006 x202007 x202008 x202009)) else (none)) else (none)) else (score_All.l0 k x0 x1 x2 x3 x9 x16 x17 (wrap64 (x18 + 1)))
end
def score_All.f (k : Nat) (l0 : List (S34)) (l1 : List (S42)) (a2 : Int) (a3 : Bool) : Option ((List (S37))) := score_All.l0 k l0 l1 a2 a3 ([] : List (S37)) l0 (l0.length : Int) 0
theorem score_All.mono_l : ∀ k, (∀ y0 y1 y2 y3 y4 y5 y6 y7, LeO (score_All.l0 k y0 y1 y2 y3 y4 y5 y6 y7) (score_All.l0 (k + 1) y0 y1 y2 y3 y4 y5 y6 y7)) ∧ (∀ y0 y1 y2 y3 y4 y5 y6 y7 y8 y9 y10 y11 y12 y13 y14 y15 y16 y17 y18 y19 y20 y21, LeO (score_All.l1 k y0 y1 y2 y3 y4 y5 y6 y7 y8 y9 y10 y11 y12 y13 y14 y15 y16 y17 y18 y19 y20 y21) (score_All.l1 (k + 1) y0 y1 y2 y3 y4 y5 y6 y7 y8 y9 y10 y11 y12 y13 y14 y15 y16 y17 y18 y19 y20 y21))
 | 0 => ⟨fun _ _ _ _ _ _ _ _ r h => by simp [score_All.l0] at h, fun _ _ _ _ _ _ _ _ _ _ _ _ _ _ _ _ _ _ _ _ _ _ r h => by simp [score_All.l1] at h⟩
 | k + 1 => by
  obtain ⟨ih0, ih1⟩ := score_All.mono_l k
  refine ⟨?_, ?_⟩
  ·intro y0 y1 y2 y3 y4 y5 y6 y7
   unfold score_All.l0
   repeat' first
   | (with_reducible exact ih0 _ _ _ _ _ _ _ _)
   | (with_reducible exact ih1 _ _ _ _ _ _ _ _ _ _ _ _ _ _ _ _ _ _ _ _ _ _)
   | (with_reducible exact score_Of.mono _ _ _ _ _ _ _ _)
   | (with_reducible exact LeO.refl _)
   | (with_reducible exact LeO.none _)
   | (with_reducible refine LeO.ite ?_ ?_)
   | (with_reducible refine LeO.bind ?_ (fun _ => ?_))
   | exact ih0 _ _ _ _ _ _ _ _
   | exact ih1 _ _ _ _ _ _ _ _ _ _ _ _ _ _ _ _ _ _ _ _ _ _
   | exact score_Of.mono _ _ _ _ _ _ _ _
   | exact LeO.none _
   | refine LeO.ite ?_ ?_
   | refine LeO.bind ?_ (fun _ => ?_)
  ·intro y0 y1 y2 y3 y4 y5 y6 y7 y8 y9 y10 y11 y12 y13 y14 y15 y16 y17 y18 y19 y20 y21
   unfold score_All.l1
   repeat' first
   | (with_reducible exact ih0 _ _ _ _ _ _ _ _)
   | (with_reducible exact ih1 _ _ _ _ _ _ _ _ _ _ _ _ _ _ _ _ _ _ _ _ _ _)
   | (with_reducible exact score_Of.mono _ _ _ _ _ _ _ _)
   | (with_reducible exact LeO.refl _)
   | (with_reducible exact LeO.none _)
   | (with_reducible refine LeO.ite ?_ ?_)
   | (with_reducible refine LeO.bind ?_ (fun _ => ?_))
   | exact ih0 _ _ _ _ _ _ _ _
   | exact ih1 _ _ _ _ _ _ _ _ _ _ _ _ _ _ _ _ _ _ _ _ _ _
   | exact score_Of.mono _ _ _ _ _ _ _ _
   | exact LeO.none _
   | refine LeO.ite ?_ ?_
   | refine LeO.bind ?_ (fun _ => ?_)
theorem score_All.mono : ∀ a0 a1 a2 a3 k, LeO (score_All.f k a0 a1 a2 a3) (score_All.f (k + 1) a0 a1 a2 a3) := by
 intro a0 a1 a2 a3 k
 obtain ⟨ih0, ih1⟩ := score_All.mono_l k
 unfold score_All.f
 repeat' first
   | (with_reducible exact ih0 _ _ _ _ _ _ _ _)
   | (with_reducible exact ih1 _ _ _ _ _ _ _ _ _ _ _ _ _ _ _ _ _ _ _ _ _ _)
   | (with_reducible exact score_Of.mono _ _ _ _ _ _ _ _)
   | (with_reducible exact LeO.refl _)
   | (with_reducible exact LeO.none _)
   | (with_reducible refine LeO.ite ?_ ?_)
   | (with_reducible refine LeO.bind ?_ (fun _ => ?_))
   | exact ih0 _ _ _ _ _ _ _ _
   | exact ih1 _ _ _ _ _ _ _ _ _ _ _ _ _ _ _ _ _ _ _ _ _ _
   | exact score_Of.mono _ _ _ _ _ _ _ _
   | exact LeO.none _
   | refine LeO.ite ?_ ?_
   | refine LeO.bind ?_ (fun _ => ?_)
set_option maxHeartbeats 8000000 in
set_option maxRecDepth 100000 in
theorem score_All.calls (k : Nat) (A0 : Option Addr) (c0 : Nat) (l0 : List (S34)) (A1 : Option Addr) (c1 : Nat) (l1 : List (S42)) (a2 : Int) (a3 : Bool) (r : List (S37)) (w : World) (hr0 : Kd.C k34 w A0 l0.length l0) (hc0 : l0.length ≤ c0) (hr1 : Kd.C k42 w A1 l1.length l1) (hc1 : l1.length ≤ c1) (h : score_All.f k l0 l1 a2 a3 = some r) :
  Calls Try.prog 23 #[.slice A0 l0.length c0, .slice A1 l1.length c1, .int .i64 a2, .bool a3] w fun e w' => ∃ v0_ : Value, e = .returned (v0_) ∧ Kd.R k37 37 w' w.heap.size (fun _ => True) v0_ r ∧ Below w.heap.size w w' := by
 have hu34 := Try.underlying34
 have hu42 := Try.underlying42
 have hu37 := Try.underlying37
 have HR0 := Aside0.mk hr0
 have HC0 := Aside0.mk hc0
 clear hr0 hc0
 have HR1 := Aside0.mk hr1
 have HC1 := Aside0.mk hc1
 clear hr1 hc1
 have HB := Aside0.mk (Below.refl w.heap.size w)
 have H : (score_All.l0 k l0 l1 a2 a3 ([] : List (S37)) l0 (l0.length : Int) 0) = some r := h
 clear h
 have H' := Aside0.mk H
 clear H
 go_enter Try.func23, Try.ntmps23
 go_wp2
 go_loopg [9, 18] k (fun kq v9 v18 w' => ∃ (x9_1 : List (S37)) (x18_1 : Int), v18 = .int .i64 x18_1 ∧ Aside0 (score_All.l0 kq l0 l1 a2 a3 x9_1 l0 (l0.length : Int) x18_1 = some r) ∧ Aside0 (kq ≤ k) ∧ Aside0 (Kd.R k37 37 w' w.heap.size (fun _ => True) v9 x9_1) ∧ Aside0 (Below w.heap.size w w'))
 case atStart => exact ⟨(([] : List (S37))), (0), (by first | rfl | (simp; done) | (simp [*]; done) | exact congrArg (Value.int _) (by unfold wrap64; omega)), H', ⟨Nat.le_refl _⟩, ⟨by first | exact Kd.R_nil _ _ _ _ _ | exact Kd.N_nil _ _ _ _ _ | exact Kd.V_nil _ _ _ _ _ | exact Kd.Q_nil _ _ _ _ _ | exact Kd.S_nil _ _ _ _ _⟩, ⟨by repeat (first | (with_reducible first | exact HB.out | apply below_alloc | apply pw_below_drewN | apply below_drew1) | exact HB.out)⟩⟩
 case round =>
  clear H'
  try clear c1
  try clear c2
  try clear p2
  obtain ⟨x9_1, x18_1, rfl, HA, HK1, HO_9, HB⟩ := hrel
  cases gk with
  | zero => exact absurd HA.out (by simp [score_All.l0])
  | succ k1 =>
   have H := HA.out
   clear HA
   simp only [score_All.l0] at H
   by_cases c5 : x18_1 < (l0.length : Int)
   ·rw [if_pos c5] at H
    have c5b0 : decide (x18_1 < (l0.length : Int)) = true := decide_eq_true c5
    clear c5
    by_cases c6 : 0 ≤ x18_1
    ·rw [if_pos c6] at H
     have c6b0 : decide (0 ≤ x18_1) = true := decide_eq_true c6
     clear c6
     by_cases c7 : x18_1 < (l0.length : Int)
     ·rw [if_pos c7] at H
      have c7b0 : decide (x18_1 < (l0.length : Int)) = true := decide_eq_true c7
      clear c7
      have H' := Aside0.mk H
      clear H
      have p200 : 0 ≤ (x18_1 : Int) := of_decide_eq_true (by first | (with_reducible assumption) | assumption)
      have q200 : x18_1 < (l0.length : Int) := of_decide_eq_true (by first | (with_reducible assumption) | assumption)
      obtain ⟨ad200, e200, hx200_0, hx200_1, hx200_2, hx200_3, hx200_4, hx200_5, hx200_6, hx200_7, hx200_8, hx200_9⟩ := at_T34 HR0.out x18_1 p200 q200
      cases e200
      replace hx200_0 := (HB.out.cell (World.block_lt_of_cell? w _ hx200_0)).trans hx200_0
      replace hx200_1 := (HB.out.cell (World.block_lt_of_cell? w _ hx200_1)).trans hx200_1
      replace hx200_2 := (HB.out.cell (World.block_lt_of_cell? w _ hx200_2)).trans hx200_2
      replace hx200_3 := (HB.out.cell (World.block_lt_of_cell? w _ hx200_3)).trans hx200_3
      replace hx200_4 := (HB.out.cell (World.block_lt_of_cell? w _ hx200_4)).trans hx200_4
      replace hx200_5 := (HB.out.cell (World.block_lt_of_cell? w _ hx200_5)).trans hx200_5
      replace hx200_6 := (HB.out.cell (World.block_lt_of_cell? w _ hx200_6)).trans hx200_6
      replace hx200_7 := (HB.out.cell (World.block_lt_of_cell? w _ hx200_7)).trans hx200_7
      replace hx200_8 := (HB.out.cell (World.block_lt_of_cell? w _ hx200_8)).trans hx200_8
      replace hx200_9 := (HB.out.cell (World.block_lt_of_cell? w _ hx200_9)).trans hx200_9
      replace p200 := eq_true p200
      replace q200 := eq_true q200
      go_wp2_with (first | ((with_reducible refine gate_dst (N := 11) rfl ?_); refine box_event ?hg (N := 11) ?hd (cs := #[.string (⟨#[]⟩ : ByteArray), .string (⟨#[]⟩ : ByteArray), .int .i64 0, .int .i64 0, .int .i64 0, .int .i64 0, .int .i64 0, .int .i64 0, .int .i64 0, .bool false]) (t := 34) ?hr ?_; (case hd => rfl); (case hg => rfl); (case hr => first | (go_simp; done) | (go_simp; rfl)); intro gb201 hg w8 hbox hb; have n0_ := Aside0.mk (Kd.R_below (by (with_reducible repeat (first | apply Kd.R_alloc | apply Kd.R_drewN | apply Kd.R_drew)); exact HO_9.out) hb); have n1_ := Aside0.mk (below_step (by repeat (first | (with_reducible first | exact HB.out | apply below_alloc | apply pw_below_drewN | apply below_drew1) | exact HB.out)) hb); have n2_ := Aside0.mk (hbox); have n3_ := Aside0.mk ((by rw [hg]; exact (below_size (by repeat (first | (with_reducible first | exact HB.out | apply below_alloc | apply pw_below_drewN | apply below_drew1) | exact HB.out))) : w.heap.size ≤ gb201)); have n4_ := Aside0.mk ((by rw [hg]; exact (below_size (by repeat (first | (with_reducible first | exact HB.out | apply below_alloc | apply pw_below_drewN | apply below_drew1) | exact HB.out))) : w.heap.size ≤ gb201)); clear HO_9; clear HB; have HO_9 := n0_; have HB := n1_; have BK201 := n2_; have GW201 := n3_; have GE201 := n4_; clear n0_ n1_ n2_ n3_ n4_; clear hb hbox hg; have hcz9_0 : w8.cell? ⟨gb201, 0, none⟩ = some (.string (⟨#[]⟩ : ByteArray)) := (blk_cell BK201.out 0).trans rfl; have hcz9_1 : w8.cell? ⟨gb201, 1, none⟩ = some (.string (⟨#[]⟩ : ByteArray)) := (blk_cell BK201.out 1).trans rfl; have hcz9_2 : w8.cell? ⟨gb201, 2, none⟩ = some (.int .i64 0) := (blk_cell BK201.out 2).trans rfl; have hcz9_3 : w8.cell? ⟨gb201, 3, none⟩ = some (.int .i64 0) := (blk_cell BK201.out 3).trans rfl; have hcz9_4 : w8.cell? ⟨gb201, 4, none⟩ = some (.int .i64 0) := (blk_cell BK201.out 4).trans rfl; have hcz9_5 : w8.cell? ⟨gb201, 5, none⟩ = some (.int .i64 0) := (blk_cell BK201.out 5).trans rfl; have hcz9_6 : w8.cell? ⟨gb201, 6, none⟩ = some (.int .i64 0) := (blk_cell BK201.out 6).trans rfl; have hcz9_7 : w8.cell? ⟨gb201, 7, none⟩ = some (.int .i64 0) := (blk_cell BK201.out 7).trans rfl; have hcz9_8 : w8.cell? ⟨gb201, 8, none⟩ = some (.int .i64 0) := (blk_cell BK201.out 8).trans rfl; have hcz9_9 : w8.cell? ⟨gb201, 9, none⟩ = some (.bool false) := (blk_cell BK201.out 9).trans rfl; have hfz9_0 := blk_frozen BK201.out 0; have hfz9_1 := blk_frozen BK201.out 1; have hfz9_2 := blk_frozen BK201.out 2; have hfz9_3 := blk_frozen BK201.out 3; have hfz9_4 := blk_frozen BK201.out 4; have hfz9_5 := blk_frozen BK201.out 5; have hfz9_6 := blk_frozen BK201.out 6; have hfz9_7 := blk_frozen BK201.out 7; have hfz9_8 := blk_frozen BK201.out 8; have hfz9_9 := blk_frozen BK201.out 9))
      go_loopg [9, 25] k1 (fun kq v9 v25 w' => ∃ (x9_2 : List (S37)) (x25_2 : Int), v25 = .int .i64 x25_2 ∧ Aside0 (score_All.l1 kq l0 l1 a2 a3 x9_2 x18_1 l0 (l0.length : Int) x18_1 l1 (l1.length : Int) x25_2 ((rd_T34 l0 x18_1).f0.f0) ((rd_T34 l0 x18_1).f0.f1) ((rd_T34 l0 x18_1).f0.f2) ((rd_T34 l0 x18_1).f0.f3) ((rd_T34 l0 x18_1).f0.f4) ((rd_T34 l0 x18_1).f0.f5) ((rd_T34 l0 x18_1).f1) ((rd_T34 l0 x18_1).f2) ((rd_T34 l0 x18_1).f3) ((rd_T34 l0 x18_1).f4) = some r) ∧ Aside0 (kq ≤ k1) ∧ Aside0 (Kd.R k37 37 w' w.heap.size (fun _ => True) v9 x9_2) ∧ Aside0 (w'.heap[gb201]? = some (.cells #[.string ((rd_T34 l0 x18_1).f0.f0), .string ((rd_T34 l0 x18_1).f0.f1), .int .i64 ((rd_T34 l0 x18_1).f0.f2), .int .i64 ((rd_T34 l0 x18_1).f0.f3), .int .i64 ((rd_T34 l0 x18_1).f0.f4), .int .i64 ((rd_T34 l0 x18_1).f0.f5), .int .i64 ((rd_T34 l0 x18_1).f1), .int .i64 ((rd_T34 l0 x18_1).f2), .int .i64 ((rd_T34 l0 x18_1).f3), .bool ((rd_T34 l0 x18_1).f4)] 34 (0, 0))) ∧ Aside0 (Below w.heap.size w w'))
      case atStart => exact ⟨(x9_1), (0), (by first | rfl | (simp; done) | (simp [*]; done) | exact congrArg (Value.int _) (by unfold wrap64; omega)), H', ⟨Nat.le_refl _⟩, ⟨by (with_reducible repeat (first | apply Kd.R_alloc | apply Kd.R_drewN | apply Kd.R_drew)); exact Kd.R_mono (Kd.R_far (p := ⟨gb201, 9, none⟩) (Kd.R_far (p := ⟨gb201, 8, none⟩) (Kd.R_far (p := ⟨gb201, 7, none⟩) (Kd.R_far (p := ⟨gb201, 6, none⟩) (Kd.R_far (p := ⟨gb201, 5, none⟩) (Kd.R_far (p := ⟨gb201, 4, none⟩) (Kd.R_far (p := ⟨gb201, 3, none⟩) (Kd.R_far (p := ⟨gb201, 2, none⟩) (Kd.R_far (p := ⟨gb201, 1, none⟩) (Kd.R_far (p := ⟨gb201, 0, none⟩) (Kd.R_types HO_9.out BK201.out (by decide)) (fun _ hk => hk.2) (.string ((rd_T34 l0 x18_1).f0.f0))) (fun _ hk => hk.2) (.string ((rd_T34 l0 x18_1).f0.f1))) (fun _ hk => hk.2) (.int .i64 ((rd_T34 l0 x18_1).f0.f2))) (fun _ hk => hk.2) (.int .i64 ((rd_T34 l0 x18_1).f0.f3))) (fun _ hk => hk.2) (.int .i64 ((rd_T34 l0 x18_1).f0.f4))) (fun _ hk => hk.2) (.int .i64 ((rd_T34 l0 x18_1).f0.f5))) (fun _ hk => hk.2) (.int .i64 ((rd_T34 l0 x18_1).f1))) (fun _ hk => hk.2) (.int .i64 ((rd_T34 l0 x18_1).f2))) (fun _ hk => hk.2) (.int .i64 ((rd_T34 l0 x18_1).f3))) (fun _ hk => hk.2) (.bool ((rd_T34 l0 x18_1).f4))) (fun _ hk => trivial)⟩, ⟨by (with_reducible repeat (first | refine blk_drewN ?_ _ | refine blk_drew ?_ | refine blk_alloc ?_ _)); refine blk_put (cs := #[.string ((rd_T34 l0 x18_1).f0.f0), .string ((rd_T34 l0 x18_1).f0.f1), .int .i64 ((rd_T34 l0 x18_1).f0.f2), .int .i64 ((rd_T34 l0 x18_1).f0.f3), .int .i64 ((rd_T34 l0 x18_1).f0.f4), .int .i64 ((rd_T34 l0 x18_1).f0.f5), .int .i64 ((rd_T34 l0 x18_1).f1), .int .i64 ((rd_T34 l0 x18_1).f2), .int .i64 ((rd_T34 l0 x18_1).f3), .bool false]) ?_ 9 _ rfl; (with_reducible repeat (first | refine blk_drewN ?_ _ | refine blk_drew ?_ | refine blk_alloc ?_ _)); refine blk_put (cs := #[.string ((rd_T34 l0 x18_1).f0.f0), .string ((rd_T34 l0 x18_1).f0.f1), .int .i64 ((rd_T34 l0 x18_1).f0.f2), .int .i64 ((rd_T34 l0 x18_1).f0.f3), .int .i64 ((rd_T34 l0 x18_1).f0.f4), .int .i64 ((rd_T34 l0 x18_1).f0.f5), .int .i64 ((rd_T34 l0 x18_1).f1), .int .i64 ((rd_T34 l0 x18_1).f2), .int .i64 0, .bool false]) ?_ 8 _ rfl; (with_reducible repeat (first | refine blk_drewN ?_ _ | refine blk_drew ?_ | refine blk_alloc ?_ _)); refine blk_put (cs := #[.string ((rd_T34 l0 x18_1).f0.f0), .string ((rd_T34 l0 x18_1).f0.f1), .int .i64 ((rd_T34 l0 x18_1).f0.f2), .int .i64 ((rd_T34 l0 x18_1).f0.f3), .int .i64 ((rd_T34 l0 x18_1).f0.f4), .int .i64 ((rd_T34 l0 x18_1).f0.f5), .int .i64 ((rd_T34 l0 x18_1).f1), .int .i64 0, .int .i64 0, .bool false]) ?_ 7 _ rfl; (with_reducible repeat (first | refine blk_drewN ?_ _ | refine blk_drew ?_ | refine blk_alloc ?_ _)); refine blk_put (cs := #[.string ((rd_T34 l0 x18_1).f0.f0), .string ((rd_T34 l0 x18_1).f0.f1), .int .i64 ((rd_T34 l0 x18_1).f0.f2), .int .i64 ((rd_T34 l0 x18_1).f0.f3), .int .i64 ((rd_T34 l0 x18_1).f0.f4), .int .i64 ((rd_T34 l0 x18_1).f0.f5), .int .i64 0, .int .i64 0, .int .i64 0, .bool false]) ?_ 6 _ rfl; (with_reducible repeat (first | refine blk_drewN ?_ _ | refine blk_drew ?_ | refine blk_alloc ?_ _)); refine blk_put (cs := #[.string ((rd_T34 l0 x18_1).f0.f0), .string ((rd_T34 l0 x18_1).f0.f1), .int .i64 ((rd_T34 l0 x18_1).f0.f2), .int .i64 ((rd_T34 l0 x18_1).f0.f3), .int .i64 ((rd_T34 l0 x18_1).f0.f4), .int .i64 0, .int .i64 0, .int .i64 0, .int .i64 0, .bool false]) ?_ 5 _ rfl; (with_reducible repeat (first | refine blk_drewN ?_ _ | refine blk_drew ?_ | refine blk_alloc ?_ _)); refine blk_put (cs := #[.string ((rd_T34 l0 x18_1).f0.f0), .string ((rd_T34 l0 x18_1).f0.f1), .int .i64 ((rd_T34 l0 x18_1).f0.f2), .int .i64 ((rd_T34 l0 x18_1).f0.f3), .int .i64 0, .int .i64 0, .int .i64 0, .int .i64 0, .int .i64 0, .bool false]) ?_ 4 _ rfl; (with_reducible repeat (first | refine blk_drewN ?_ _ | refine blk_drew ?_ | refine blk_alloc ?_ _)); refine blk_put (cs := #[.string ((rd_T34 l0 x18_1).f0.f0), .string ((rd_T34 l0 x18_1).f0.f1), .int .i64 ((rd_T34 l0 x18_1).f0.f2), .int .i64 0, .int .i64 0, .int .i64 0, .int .i64 0, .int .i64 0, .int .i64 0, .bool false]) ?_ 3 _ rfl; (with_reducible repeat (first | refine blk_drewN ?_ _ | refine blk_drew ?_ | refine blk_alloc ?_ _)); refine blk_put (cs := #[.string ((rd_T34 l0 x18_1).f0.f0), .string ((rd_T34 l0 x18_1).f0.f1), .int .i64 0, .int .i64 0, .int .i64 0, .int .i64 0, .int .i64 0, .int .i64 0, .int .i64 0, .bool false]) ?_ 2 _ rfl; (with_reducible repeat (first | refine blk_drewN ?_ _ | refine blk_drew ?_ | refine blk_alloc ?_ _)); refine blk_put (cs := #[.string ((rd_T34 l0 x18_1).f0.f0), .string (⟨#[]⟩ : ByteArray), .int .i64 0, .int .i64 0, .int .i64 0, .int .i64 0, .int .i64 0, .int .i64 0, .int .i64 0, .bool false]) ?_ 1 _ rfl; (with_reducible repeat (first | refine blk_drewN ?_ _ | refine blk_drew ?_ | refine blk_alloc ?_ _)); refine blk_put (cs := #[.string (⟨#[]⟩ : ByteArray), .string (⟨#[]⟩ : ByteArray), .int .i64 0, .int .i64 0, .int .i64 0, .int .i64 0, .int .i64 0, .int .i64 0, .int .i64 0, .bool false]) ?_ 0 _ rfl; (with_reducible repeat (first | refine blk_drewN ?_ _ | refine blk_drew ?_ | refine blk_alloc ?_ _)); exact BK201.out⟩, ⟨by repeat (first | (with_reducible first | exact HB.out | apply below_alloc | apply pw_below_drewN | apply below_drew1 | refine below_set ?_ GE201.out) | exact HB.out)⟩⟩
      case round =>
       clear H'
       try clear c1
       try clear c2
       try clear p2
       try clear q2
       try clear hx2
       try clear c5
       try clear c5b0
       try clear c6
       try clear c6b0
       try clear p6
       try clear c7
       try clear c7b0
       try clear hcz9_0
       try clear hcz9_1
       try clear hcz9_2
       try clear hcz9_3
       try clear hcz9_4
       try clear hcz9_5
       try clear hcz9_6
       try clear hcz9_7
       try clear hcz9_8
       try clear hcz9_9
       try clear hfz9_0
       try clear hfz9_1
       try clear hfz9_2
       try clear hfz9_3
       try clear hfz9_4
       try clear hfz9_5
       try clear hfz9_6
       try clear hfz9_7
       try clear hfz9_8
       try clear hfz9_9
       try clear hx200_0
       try clear hx200_1
       try clear hx200_2
       try clear hx200_3
       try clear hx200_4
       try clear hx200_5
       try clear hx200_6
       try clear hx200_7
       try clear hx200_8
       try clear hx200_9
       try clear p2
       try clear p200
       try clear q200
       obtain ⟨x9_2, x25_2, rfl, HA, HK2, HO_9, BK201, HB⟩ := hrel
       cases gk with
       | zero => exact absurd HA.out (by simp [score_All.l1])
       | succ k2 =>
        have H := HA.out
        clear HA
        simp only [score_All.l1] at H
        by_cases c10 : x25_2 < (l1.length : Int)
        ·rw [if_pos c10] at H
         have c10b0 : decide (x25_2 < (l1.length : Int)) = true := decide_eq_true c10
         clear c10
         by_cases c11 : 0 ≤ x25_2
         ·rw [if_pos c11] at H
          have c11b0 : decide (0 ≤ x25_2) = true := decide_eq_true c11
          clear c11
          by_cases c12 : x25_2 < (l1.length : Int)
          ·rw [if_pos c12] at H
           have c12b0 : decide (x25_2 < (l1.length : Int)) = true := decide_eq_true c12
           clear c12
           by_cases c13 : ((rd_T42 l1 x25_2).f0) = ((rd_T34 l0 x18_1).f0.f5)
           ·rw [if_pos c13] at H
            have c13b0 : (((rd_T42 l1 x25_2).f0) == ((rd_T34 l0 x18_1).f0.f5)) = true := beq_iff_eq.mpr c13
            have c13b1 : (((rd_T42 l1 x25_2).f0) != ((rd_T34 l0 x18_1).f0.f5)) = false := bne_eq_false_iff_eq.mpr c13
            clear c13
            replace H := Option.bind_eq_some_iff.mp H
            obtain ⟨⟨t204, t205, t206, t207⟩, A140, H⟩ := H
            replace H : (if t207 = true then (if x9_2.length < 5864062014805 then (score_All.l0 k2 l0 l1 a2 a3 (x9_2 ++ [(⟨t204, t205, t206⟩ : S37)]) l0 (l0.length : Int) (wrap64 (x18_1 + 1))) else (none)) else (score_All.l0 k2 l0 l1 a2 a3 x9_2 l0 (l0.length : Int) (wrap64 (x18_1 + 1)))) = some r := H
            have A14 := Aside0.mk A140
            clear A140
            by_cases c15 : t207 = true
            ·subst c15
             have H1 : (if x9_2.length < 5864062014805 then (score_All.l0 k2 l0 l1 a2 a3 (x9_2 ++ [(⟨t204, t205, t206⟩ : S37)]) l0 (l0.length : Int) (wrap64 (x18_1 + 1))) else (none)) = some r := by rw [if_pos rfl] at H; exact H
             clear H
             have H := H1
             clear H1
             by_cases c16 : x9_2.length < 5864062014805
             ·rw [if_pos c16] at H
              have LMc16 := Aside0.mk c16
              clear c16
              obtain ⟨y209, hy209⟩ : ∃ y_ : List (S37), y_ = (x9_2 ++ [(⟨t204, t205, t206⟩ : S37)]) := ⟨_, rfl⟩
              replace H : (score_All.l0 k2 l0 l1 a2 a3 y209 l0 (l0.length : Int) (wrap64 (x18_1 + 1))) = some r := by first | (rw [hy209]; with_reducible exact H) | (have H2_ := (Option.bind_some _ _).symm.trans H; rw [hy209]; with_reducible exact H2_) | (have H2_ := (Option.bind_some _ _).symm.trans H; with_reducible exact H2_) | with_reducible exact H | (rw [hy209]; exact H) | exact H
              have Ny209 := Aside0.mk hy209
              clear hy209
              have H' := Aside0.mk H
              clear H
              have p202 : 0 ≤ (x25_2 : Int) := of_decide_eq_true (by first | (with_reducible assumption) | assumption)
              have q202 : x25_2 < (l1.length : Int) := of_decide_eq_true (by first | (with_reducible assumption) | assumption)
              obtain ⟨ad202, e202, hx202_0, hx202_1, hx202_2⟩ := at_T42 HR1.out x25_2 p202 q202
              cases e202
              replace hx202_0 := (HB.out.cell (World.block_lt_of_cell? w _ hx202_0)).trans hx202_0
              replace hx202_1 := (HB.out.cell (World.block_lt_of_cell? w _ hx202_1)).trans hx202_1
              replace hx202_2 := (HB.out.cell (World.block_lt_of_cell? w _ hx202_2)).trans hx202_2
              replace p202 := eq_true p202
              replace q202 := eq_true q202
              go_wp2_with (first | ((with_reducible refine gate_dst (N := 13) rfl ?_); refine box_event ?hg (N := 13) ?hd (cs := #[.int .i64 0, .int .i64 0, .int .i64 0]) (t := 42) ?hr ?_; (case hd => rfl); (case hg => rfl); (case hr => first | (go_simp; done) | (go_simp; rfl)); intro gb203 hg w17 hbox hb; have n0_ := Aside0.mk (Kd.R_below (by (with_reducible repeat (first | apply Kd.R_alloc | apply Kd.R_drewN | apply Kd.R_drew)); exact HO_9.out) hb); have n1_ := Aside0.mk (blk_below (g := gb201) (o := .cells #[.string ((rd_T34 l0 x18_1).f0.f0), .string ((rd_T34 l0 x18_1).f0.f1), .int .i64 ((rd_T34 l0 x18_1).f0.f2), .int .i64 ((rd_T34 l0 x18_1).f0.f3), .int .i64 ((rd_T34 l0 x18_1).f0.f4), .int .i64 ((rd_T34 l0 x18_1).f0.f5), .int .i64 ((rd_T34 l0 x18_1).f1), .int .i64 ((rd_T34 l0 x18_1).f2), .int .i64 ((rd_T34 l0 x18_1).f3), .bool ((rd_T34 l0 x18_1).f4)] 34 (0, 0)) (by (with_reducible repeat (first | refine blk_drewN ?_ _ | refine blk_drew ?_ | refine blk_alloc ?_ _)); exact BK201.out) hb); have n2_ := Aside0.mk (below_step (by repeat (first | (with_reducible first | exact HB.out | apply below_alloc | apply pw_below_drewN | apply below_drew1 | refine below_set ?_ GE201.out) | exact HB.out)) hb); have n3_ := Aside0.mk (hbox); have n4_ := Aside0.mk ((by rw [hg]; exact (below_size (by repeat (first | (with_reducible first | exact HB.out | apply below_alloc | apply pw_below_drewN | apply below_drew1 | refine below_set ?_ GE201.out) | exact HB.out))) : w.heap.size ≤ gb203)); have n5_ := Aside0.mk ((by rw [hg]; exact (below_size (by repeat (first | (with_reducible first | exact HB.out | apply below_alloc | apply pw_below_drewN | apply below_drew1 | refine below_set ?_ GE201.out) | exact HB.out))) : w.heap.size ≤ gb203)); have n6_ := Aside0.mk ((by rw [hg]; exact Nat.ne_of_lt (blk_lt (g := gb201) (o := .cells #[.string ((rd_T34 l0 x18_1).f0.f0), .string ((rd_T34 l0 x18_1).f0.f1), .int .i64 ((rd_T34 l0 x18_1).f0.f2), .int .i64 ((rd_T34 l0 x18_1).f0.f3), .int .i64 ((rd_T34 l0 x18_1).f0.f4), .int .i64 ((rd_T34 l0 x18_1).f0.f5), .int .i64 ((rd_T34 l0 x18_1).f1), .int .i64 ((rd_T34 l0 x18_1).f2), .int .i64 ((rd_T34 l0 x18_1).f3), .bool ((rd_T34 l0 x18_1).f4)] 34 (0, 0)) (by (with_reducible repeat (first | refine blk_drewN ?_ _ | refine blk_drew ?_ | refine blk_alloc ?_ _)); exact BK201.out)) : gb201 ≠ gb203)); have n7_ := Aside0.mk ((by rw [hg]; exact Nat.ne_of_gt (blk_lt (g := gb201) (o := .cells #[.string ((rd_T34 l0 x18_1).f0.f0), .string ((rd_T34 l0 x18_1).f0.f1), .int .i64 ((rd_T34 l0 x18_1).f0.f2), .int .i64 ((rd_T34 l0 x18_1).f0.f3), .int .i64 ((rd_T34 l0 x18_1).f0.f4), .int .i64 ((rd_T34 l0 x18_1).f0.f5), .int .i64 ((rd_T34 l0 x18_1).f1), .int .i64 ((rd_T34 l0 x18_1).f2), .int .i64 ((rd_T34 l0 x18_1).f3), .bool ((rd_T34 l0 x18_1).f4)] 34 (0, 0)) (by (with_reducible repeat (first | refine blk_drewN ?_ _ | refine blk_drew ?_ | refine blk_alloc ?_ _)); exact BK201.out)) : gb203 ≠ gb201)); clear HO_9; clear BK201; clear HB; have HO_9 := n0_; have BK201 := n1_; have HB := n2_; have BK203 := n3_; have GW203 := n4_; have GE203 := n5_; have NB201_203 := n6_; have NB203_201 := n7_; clear n0_ n1_ n2_ n3_ n4_ n5_ n6_ n7_; clear hb hbox hg; have hnb18 := NB203_201.out; have hnc18 := NB201_203.out; have hcz19_0 : w17.cell? ⟨gb203, 0, none⟩ = some (.int .i64 0) := (blk_cell BK203.out 0).trans rfl; have hcz19_1 : w17.cell? ⟨gb203, 1, none⟩ = some (.int .i64 0) := (blk_cell BK203.out 1).trans rfl; have hcz19_2 : w17.cell? ⟨gb203, 2, none⟩ = some (.int .i64 0) := (blk_cell BK203.out 2).trans rfl; have hfz19_0 := blk_frozen BK203.out 0; have hfz19_1 := blk_frozen BK203.out 1; have hfz19_2 := blk_frozen BK203.out 2; have hcz20_0 : w17.cell? ⟨gb201, 0, none⟩ = some (.string ((rd_T34 l0 x18_1).f0.f0)) := (blk_cell BK201.out 0).trans rfl; have hcz20_1 : w17.cell? ⟨gb201, 1, none⟩ = some (.string ((rd_T34 l0 x18_1).f0.f1)) := (blk_cell BK201.out 1).trans rfl; have hcz20_2 : w17.cell? ⟨gb201, 2, none⟩ = some (.int .i64 ((rd_T34 l0 x18_1).f0.f2)) := (blk_cell BK201.out 2).trans rfl; have hcz20_3 : w17.cell? ⟨gb201, 3, none⟩ = some (.int .i64 ((rd_T34 l0 x18_1).f0.f3)) := (blk_cell BK201.out 3).trans rfl; have hcz20_4 : w17.cell? ⟨gb201, 4, none⟩ = some (.int .i64 ((rd_T34 l0 x18_1).f0.f4)) := (blk_cell BK201.out 4).trans rfl; have hcz20_5 : w17.cell? ⟨gb201, 5, none⟩ = some (.int .i64 ((rd_T34 l0 x18_1).f0.f5)) := (blk_cell BK201.out 5).trans rfl; have hcz20_6 : w17.cell? ⟨gb201, 6, none⟩ = some (.int .i64 ((rd_T34 l0 x18_1).f1)) := (blk_cell BK201.out 6).trans rfl; have hcz20_7 : w17.cell? ⟨gb201, 7, none⟩ = some (.int .i64 ((rd_T34 l0 x18_1).f2)) := (blk_cell BK201.out 7).trans rfl; have hcz20_8 : w17.cell? ⟨gb201, 8, none⟩ = some (.int .i64 ((rd_T34 l0 x18_1).f3)) := (blk_cell BK201.out 8).trans rfl; have hcz20_9 : w17.cell? ⟨gb201, 9, none⟩ = some (.bool ((rd_T34 l0 x18_1).f4)) := (blk_cell BK201.out 9).trans rfl; have hfz20_0 := blk_frozen BK201.out 0; have hfz20_1 := blk_frozen BK201.out 1; have hfz20_2 := blk_frozen BK201.out 2; have hfz20_3 := blk_frozen BK201.out 3; have hfz20_4 := blk_frozen BK201.out 4; have hfz20_5 := blk_frozen BK201.out 5; have hfz20_6 := blk_frozen BK201.out 6; have hfz20_7 := blk_frozen BK201.out 7; have hfz20_8 := blk_frozen BK201.out 8; have hfz20_9 := blk_frozen BK201.out 9) | ((with_reducible refine gate_callee (f := 19) rfl ?_); refine goesL_ (some 41) rfl rfl Try.func19 (by kernel_rfl) rfl #[.slice (some ad200) l0.length c0, .int .i64 x18_1, .agg #[.int .i64 ((rd_T42 l1 x25_2).f0), .int .i64 ((rd_T42 l1 x25_2).f1), .int .i64 ((rd_T42 l1 x25_2).f2)], .int .i64 a2, .bool a3] rfl (by (try simp only [List.map_toArray, List.map_cons, List.map_nil]); first | done | rfl | (simp only [List.length_drop, List.length_take]; rfl)) ?_; (with_reducible refine (score_Of.calls k2 _ _ l0 x18_1 ((rd_T42 l1 x25_2).f0) ((rd_T42 l1 x25_2).f1) ((rd_T42 l1 x25_2).f2) a2 a3 t204 t205 t206 true _ ?side1 ?side2 A14.out).mono ?_); (case side1 => exact Kd.C_below HR0.out (by repeat (first | (with_reducible first | exact HB.out | apply below_alloc | apply pw_below_drewN | apply below_drew1 | refine below_set ?_ GE201.out | refine below_set ?_ GE203.out) | exact HB.out))); (case side2 => exact HC0.out); rintro e w21 ⟨rfl, hb⟩; refine ⟨_, rfl, ?_⟩; have n0_ := Aside0.mk (Kd.R_below (by (with_reducible repeat (first | apply Kd.R_alloc | apply Kd.R_drewN | apply Kd.R_drew)); exact (Kd.R_mono (Kd.R_far (p := ⟨gb203, 2, none⟩) (Kd.R_far (p := ⟨gb203, 1, none⟩) (Kd.R_far (p := ⟨gb203, 0, none⟩) (Kd.R_types HO_9.out BK203.out (by decide)) (fun _ hk => hk.2) (.int .i64 ((rd_T42 l1 x25_2).f0))) (fun _ hk => hk.2) (.int .i64 ((rd_T42 l1 x25_2).f1))) (fun _ hk => hk.2) (.int .i64 ((rd_T42 l1 x25_2).f2))) (fun _ h_ => h_.1))) hb); have n1_ := Aside0.mk (blk_below (g := gb201) (o := .cells #[.string ((rd_T34 l0 x18_1).f0.f0), .string ((rd_T34 l0 x18_1).f0.f1), .int .i64 ((rd_T34 l0 x18_1).f0.f2), .int .i64 ((rd_T34 l0 x18_1).f0.f3), .int .i64 ((rd_T34 l0 x18_1).f0.f4), .int .i64 ((rd_T34 l0 x18_1).f0.f5), .int .i64 ((rd_T34 l0 x18_1).f1), .int .i64 ((rd_T34 l0 x18_1).f2), .int .i64 ((rd_T34 l0 x18_1).f3), .bool ((rd_T34 l0 x18_1).f4)] 34 (0, 0)) (by (with_reducible repeat (first | refine blk_drewN ?_ _ | refine blk_drew ?_ | refine blk_alloc ?_ _)); refine blk_far ?_ NB201_203.out _; (with_reducible repeat (first | refine blk_drewN ?_ _ | refine blk_drew ?_ | refine blk_alloc ?_ _)); refine blk_far ?_ NB201_203.out _; (with_reducible repeat (first | refine blk_drewN ?_ _ | refine blk_drew ?_ | refine blk_alloc ?_ _)); refine blk_far ?_ NB201_203.out _; (with_reducible repeat (first | refine blk_drewN ?_ _ | refine blk_drew ?_ | refine blk_alloc ?_ _)); exact BK201.out) hb); have n2_ := Aside0.mk (blk_below (g := gb203) (o := .cells #[.int .i64 ((rd_T42 l1 x25_2).f0), .int .i64 ((rd_T42 l1 x25_2).f1), .int .i64 ((rd_T42 l1 x25_2).f2)] 42 (0, 0)) (by (with_reducible repeat (first | refine blk_drewN ?_ _ | refine blk_drew ?_ | refine blk_alloc ?_ _)); refine blk_put (cs := #[.int .i64 ((rd_T42 l1 x25_2).f0), .int .i64 ((rd_T42 l1 x25_2).f1), .int .i64 0]) ?_ 2 _ rfl; (with_reducible repeat (first | refine blk_drewN ?_ _ | refine blk_drew ?_ | refine blk_alloc ?_ _)); refine blk_put (cs := #[.int .i64 ((rd_T42 l1 x25_2).f0), .int .i64 0, .int .i64 0]) ?_ 1 _ rfl; (with_reducible repeat (first | refine blk_drewN ?_ _ | refine blk_drew ?_ | refine blk_alloc ?_ _)); refine blk_put (cs := #[.int .i64 0, .int .i64 0, .int .i64 0]) ?_ 0 _ rfl; (with_reducible repeat (first | refine blk_drewN ?_ _ | refine blk_drew ?_ | refine blk_alloc ?_ _)); exact BK203.out) hb); have n3_ := Aside0.mk (below_step (by repeat (first | (with_reducible first | exact HB.out | apply below_alloc | apply pw_below_drewN | apply below_drew1 | refine below_set ?_ GE201.out | refine below_set ?_ GE203.out) | exact HB.out)) hb); clear HO_9; clear BK201; clear BK203; clear HB; have HO_9 := n0_; have BK201 := n1_; have BK203 := n2_; have HB := n3_; clear n0_ n1_ n2_ n3_; (try clear hb); (try clear hb2); (try clear hk); (try clear hi)) | ((with_reducible refine gate_dst (N := 14) rfl ?_); refine box_event ?hg (N := 14) ?hd (cs := #[.int .i64 0, .int .i64 0, .int .i64 0]) (t := 37) ?hr ?_; (case hd => rfl); (case hg => rfl); (case hr => first | (go_simp; done) | (go_simp; rfl)); intro gb208 hg w22 hbox hb; have n0_ := Aside0.mk (Kd.R_below (Kd.R_elderB (by (with_reducible repeat (first | apply Kd.R_alloc | apply Kd.R_drewN | apply Kd.R_drew)); exact HO_9.out) gb208 (Nat.le_of_eq hg.symm)) hb); have n1_ := Aside0.mk (blk_below (g := gb201) (o := .cells #[.string ((rd_T34 l0 x18_1).f0.f0), .string ((rd_T34 l0 x18_1).f0.f1), .int .i64 ((rd_T34 l0 x18_1).f0.f2), .int .i64 ((rd_T34 l0 x18_1).f0.f3), .int .i64 ((rd_T34 l0 x18_1).f0.f4), .int .i64 ((rd_T34 l0 x18_1).f0.f5), .int .i64 ((rd_T34 l0 x18_1).f1), .int .i64 ((rd_T34 l0 x18_1).f2), .int .i64 ((rd_T34 l0 x18_1).f3), .bool ((rd_T34 l0 x18_1).f4)] 34 (0, 0)) (by (with_reducible repeat (first | refine blk_drewN ?_ _ | refine blk_drew ?_ | refine blk_alloc ?_ _)); exact BK201.out) hb); have n2_ := Aside0.mk (blk_below (g := gb203) (o := .cells #[.int .i64 ((rd_T42 l1 x25_2).f0), .int .i64 ((rd_T42 l1 x25_2).f1), .int .i64 ((rd_T42 l1 x25_2).f2)] 42 (0, 0)) (by (with_reducible repeat (first | refine blk_drewN ?_ _ | refine blk_drew ?_ | refine blk_alloc ?_ _)); exact BK203.out) hb); have n3_ := Aside0.mk (below_step (by repeat (first | (with_reducible first | exact HB.out | apply below_alloc | apply pw_below_drewN | apply below_drew1 | refine below_set ?_ GE201.out | refine below_set ?_ GE203.out) | exact HB.out)) hb); have n4_ := Aside0.mk (hbox); have n5_ := Aside0.mk ((by rw [hg]; exact (below_size (by repeat (first | (with_reducible first | exact HB.out | apply below_alloc | apply pw_below_drewN | apply below_drew1 | refine below_set ?_ GE201.out | refine below_set ?_ GE203.out) | exact HB.out))) : w.heap.size ≤ gb208)); have n6_ := Aside0.mk ((by rw [hg]; exact (below_size (by repeat (first | (with_reducible first | exact HB.out | apply below_alloc | apply pw_below_drewN | apply below_drew1 | refine below_set ?_ GE201.out | refine below_set ?_ GE203.out) | exact HB.out))) : w.heap.size ≤ gb208)); have n7_ := Aside0.mk ((by rw [hg]; exact Nat.ne_of_lt (blk_lt (g := gb201) (o := .cells #[.string ((rd_T34 l0 x18_1).f0.f0), .string ((rd_T34 l0 x18_1).f0.f1), .int .i64 ((rd_T34 l0 x18_1).f0.f2), .int .i64 ((rd_T34 l0 x18_1).f0.f3), .int .i64 ((rd_T34 l0 x18_1).f0.f4), .int .i64 ((rd_T34 l0 x18_1).f0.f5), .int .i64 ((rd_T34 l0 x18_1).f1), .int .i64 ((rd_T34 l0 x18_1).f2), .int .i64 ((rd_T34 l0 x18_1).f3), .bool ((rd_T34 l0 x18_1).f4)] 34 (0, 0)) (by (with_reducible repeat (first | refine blk_drewN ?_ _ | refine blk_drew ?_ | refine blk_alloc ?_ _)); exact BK201.out)) : gb201 ≠ gb208)); have n8_ := Aside0.mk ((by rw [hg]; exact Nat.ne_of_gt (blk_lt (g := gb201) (o := .cells #[.string ((rd_T34 l0 x18_1).f0.f0), .string ((rd_T34 l0 x18_1).f0.f1), .int .i64 ((rd_T34 l0 x18_1).f0.f2), .int .i64 ((rd_T34 l0 x18_1).f0.f3), .int .i64 ((rd_T34 l0 x18_1).f0.f4), .int .i64 ((rd_T34 l0 x18_1).f0.f5), .int .i64 ((rd_T34 l0 x18_1).f1), .int .i64 ((rd_T34 l0 x18_1).f2), .int .i64 ((rd_T34 l0 x18_1).f3), .bool ((rd_T34 l0 x18_1).f4)] 34 (0, 0)) (by (with_reducible repeat (first | refine blk_drewN ?_ _ | refine blk_drew ?_ | refine blk_alloc ?_ _)); exact BK201.out)) : gb208 ≠ gb201)); have n9_ := Aside0.mk ((by rw [hg]; exact Nat.ne_of_lt (blk_lt (g := gb203) (o := .cells #[.int .i64 ((rd_T42 l1 x25_2).f0), .int .i64 ((rd_T42 l1 x25_2).f1), .int .i64 ((rd_T42 l1 x25_2).f2)] 42 (0, 0)) (by (with_reducible repeat (first | refine blk_drewN ?_ _ | refine blk_drew ?_ | refine blk_alloc ?_ _)); exact BK203.out)) : gb203 ≠ gb208)); have n10_ := Aside0.mk ((by rw [hg]; exact Nat.ne_of_gt (blk_lt (g := gb203) (o := .cells #[.int .i64 ((rd_T42 l1 x25_2).f0), .int .i64 ((rd_T42 l1 x25_2).f1), .int .i64 ((rd_T42 l1 x25_2).f2)] 42 (0, 0)) (by (with_reducible repeat (first | refine blk_drewN ?_ _ | refine blk_drew ?_ | refine blk_alloc ?_ _)); exact BK203.out)) : gb208 ≠ gb203)); clear HO_9; clear BK201; clear BK203; clear HB; have HO_9 := n0_; have BK201 := n1_; have BK203 := n2_; have HB := n3_; have BK208 := n4_; have GW208 := n5_; have GE208 := n6_; have NB201_208 := n7_; have NB208_201 := n8_; have NB203_208 := n9_; have NB208_203 := n10_; clear n0_ n1_ n2_ n3_ n4_ n5_ n6_ n7_ n8_ n9_ n10_; clear hb hbox hg; have hnb23 := NB208_201.out; have hnc23 := NB201_208.out; have hnb24 := NB208_203.out; have hnc24 := NB203_208.out; have hcz25_0 : w22.cell? ⟨gb208, 0, none⟩ = some (.int .i64 0) := (blk_cell BK208.out 0).trans rfl; have hcz25_1 : w22.cell? ⟨gb208, 1, none⟩ = some (.int .i64 0) := (blk_cell BK208.out 1).trans rfl; have hcz25_2 : w22.cell? ⟨gb208, 2, none⟩ = some (.int .i64 0) := (blk_cell BK208.out 2).trans rfl; have hfz25_0 := blk_frozen BK208.out 0; have hfz25_1 := blk_frozen BK208.out 1; have hfz25_2 := blk_frozen BK208.out 2) | ((with_reducible refine gate_builtin (b := .append) (xs := #[.tmp 45, .tmp 47]) rfl ?_); at_builtin; refine Kd.R_append k37 (w0 := w) w.heap.size rfl (.tmp 45) (.tmp 47) 38 37 (.agg #[(.int .i64 0), (.int .i64 0), (.int .i64 0)]) 24 rfl Try.underlying38 info37 rfl (by decide) (by omega) u9 x9_2 (⟨t204, t205, t206⟩ : S37) [.int .i64 t204, .int .i64 t205, .int .i64 t206] (fun k_ => k_ ≠ gb208) (fun _ => False) rfl (by first | (go_simp; done) | (go_simp; rfl)) ?aP (fun _ hk => hk.elim) ?aF ?aO ?aB ?aS ?aL ?_; (case aP => exact k37_mkM _ _ _ (⟨t204, t205, t206⟩ : S37)); (case aB => exact (by repeat (first | (with_reducible first | exact HB.out | apply below_alloc | apply pw_below_drewN | apply below_drew1 | refine below_set ?_ GE201.out | refine below_set ?_ GE203.out | refine below_set ?_ GE208.out) | exact HB.out))); (case aF => exact (fun k_ hk => Kd.freshB (g := gb208) (o := .cells #[.int .i64 t204, .int .i64 t205, .int .i64 t206] 37 (0, 0)) (by (with_reducible repeat (first | refine blk_drewN ?_ _ | refine blk_drew ?_ | refine blk_alloc ?_ _)); refine blk_put (cs := #[.int .i64 t204, .int .i64 t205, .int .i64 0]) ?_ 2 _ rfl; (with_reducible repeat (first | refine blk_drewN ?_ _ | refine blk_drew ?_ | refine blk_alloc ?_ _)); refine blk_put (cs := #[.int .i64 t204, .int .i64 0, .int .i64 0]) ?_ 1 _ rfl; (with_reducible repeat (first | refine blk_drewN ?_ _ | refine blk_drew ?_ | refine blk_alloc ?_ _)); refine blk_put (cs := #[.int .i64 0, .int .i64 0, .int .i64 0]) ?_ 0 _ rfl; (with_reducible repeat (first | refine blk_drewN ?_ _ | refine blk_drew ?_ | refine blk_alloc ?_ _)); exact BK208.out) k_ hk)); (case aO => exact (by (with_reducible repeat (first | apply Kd.R_alloc | apply Kd.R_drewN | apply Kd.R_drew)); exact Kd.R_mono (Kd.R_far (p := ⟨gb208, 2, none⟩) (Kd.R_far (p := ⟨gb208, 1, none⟩) (Kd.R_far (p := ⟨gb208, 0, none⟩) (Kd.R_mono HO_9.out (fun k_ hk => (⟨hk, hk.2⟩ : _ ∧ k_ ≠ gb208))) (fun _ hk => hk.2) (.int .i64 t204)) (fun _ hk => hk.2) (.int .i64 t205)) (fun _ hk => hk.2) (.int .i64 t206)) (fun _ hk => hk.1.2))); (case aS => exact (below_size (by repeat (first | (with_reducible first | exact HB.out | apply below_alloc | apply pw_below_drewN | apply below_drew1 | refine below_set ?_ GE201.out | refine below_set ?_ GE203.out | refine below_set ?_ GE208.out) | exact HB.out)))); (case aL => have := LMc16.out; omega); intro v210 w26 ho hb hg hat; rw [← Ny209.out] at ho; have n0_ := Aside0.mk (blk_grown (g := gb201) (o := .cells #[.string ((rd_T34 l0 x18_1).f0.f0), .string ((rd_T34 l0 x18_1).f0.f1), .int .i64 ((rd_T34 l0 x18_1).f0.f2), .int .i64 ((rd_T34 l0 x18_1).f0.f3), .int .i64 ((rd_T34 l0 x18_1).f0.f4), .int .i64 ((rd_T34 l0 x18_1).f0.f5), .int .i64 ((rd_T34 l0 x18_1).f1), .int .i64 ((rd_T34 l0 x18_1).f2), .int .i64 ((rd_T34 l0 x18_1).f3), .bool ((rd_T34 l0 x18_1).f4)] 34 (0, 0)) (by (with_reducible repeat (first | refine blk_drewN ?_ _ | refine blk_drew ?_ | refine blk_alloc ?_ _)); refine blk_far ?_ NB201_208.out _; (with_reducible repeat (first | refine blk_drewN ?_ _ | refine blk_drew ?_ | refine blk_alloc ?_ _)); refine blk_far ?_ NB201_208.out _; (with_reducible repeat (first | refine blk_drewN ?_ _ | refine blk_drew ?_ | refine blk_alloc ?_ _)); refine blk_far ?_ NB201_208.out _; (with_reducible repeat (first | refine blk_drewN ?_ _ | refine blk_drew ?_ | refine blk_alloc ?_ _)); exact BK201.out) hg (Kd.R_ne HO_9.out BK201.out (by decide))); have n1_ := Aside0.mk (blk_grown (g := gb203) (o := .cells #[.int .i64 ((rd_T42 l1 x25_2).f0), .int .i64 ((rd_T42 l1 x25_2).f1), .int .i64 ((rd_T42 l1 x25_2).f2)] 42 (0, 0)) (by (with_reducible repeat (first | refine blk_drewN ?_ _ | refine blk_drew ?_ | refine blk_alloc ?_ _)); refine blk_far ?_ NB203_208.out _; (with_reducible repeat (first | refine blk_drewN ?_ _ | refine blk_drew ?_ | refine blk_alloc ?_ _)); refine blk_far ?_ NB203_208.out _; (with_reducible repeat (first | refine blk_drewN ?_ _ | refine blk_drew ?_ | refine blk_alloc ?_ _)); refine blk_far ?_ NB203_208.out _; (with_reducible repeat (first | refine blk_drewN ?_ _ | refine blk_drew ?_ | refine blk_alloc ?_ _)); exact BK203.out) hg (Kd.R_ne HO_9.out BK203.out (by decide))); have n2_ := Aside0.mk (blk_grown (g := gb208) (o := .cells #[.int .i64 t204, .int .i64 t205, .int .i64 t206] 37 (0, 0)) (by (with_reducible repeat (first | refine blk_drewN ?_ _ | refine blk_drew ?_ | refine blk_alloc ?_ _)); refine blk_put (cs := #[.int .i64 t204, .int .i64 t205, .int .i64 0]) ?_ 2 _ rfl; (with_reducible repeat (first | refine blk_drewN ?_ _ | refine blk_drew ?_ | refine blk_alloc ?_ _)); refine blk_put (cs := #[.int .i64 t204, .int .i64 0, .int .i64 0]) ?_ 1 _ rfl; (with_reducible repeat (first | refine blk_drewN ?_ _ | refine blk_drew ?_ | refine blk_alloc ?_ _)); refine blk_put (cs := #[.int .i64 0, .int .i64 0, .int .i64 0]) ?_ 0 _ rfl; (with_reducible repeat (first | refine blk_drewN ?_ _ | refine blk_drew ?_ | refine blk_alloc ?_ _)); exact BK208.out) hg (Kd.R_away HO_9.out (fun _ hk => hk.2))); have n3_ := Aside0.mk (hb); have n4_ := Aside0.mk (ho); clear BK201; clear BK203; clear BK208; clear HB; clear HO_9; have BK201 := n0_; have BK203 := n1_; have BK208 := n2_; have HB := n3_; have HO211 := n4_; clear n0_ n1_ n2_ n3_ n4_; clear ho hb hg hat))
              go_roundg k2
              case measure => have := HK1.out; have := HK2.out; omega
              case rel => exact ⟨(y209), (wrap64 (x18_1 + 1)), (by first | rfl | (simp; done) | (simp [*]; done) | exact congrArg (Value.int _) (by unfold wrap64; omega)), H', ⟨by have := HK1.out; have := HK2.out; omega⟩, ⟨by (with_reducible repeat (first | apply Kd.R_alloc | apply Kd.R_drewN | apply Kd.R_drew)); exact Kd.R_mono HO211.out (fun _ hk => trivial)⟩, ⟨by repeat (first | (with_reducible first | exact HB.out | apply below_alloc | apply pw_below_drewN | apply below_drew1 | refine below_set ?_ GE201.out | refine below_set ?_ GE203.out | refine below_set ?_ GE208.out) | exact HB.out)⟩⟩
             ·rw [if_neg c16] at H
              exact absurd H (by simp)
            ·replace c15 := Bool.eq_false_iff.mpr c15
             subst c15
             have H1 : (score_All.l0 k2 l0 l1 a2 a3 x9_2 l0 (l0.length : Int) (wrap64 (x18_1 + 1))) = some r := by rw [if_neg (show ¬ (false = true) by decide)] at H; exact H
             clear H
             have H := H1
             clear H1
             have H' := Aside0.mk H
             clear H
             have p202 : 0 ≤ (x25_2 : Int) := of_decide_eq_true (by first | (with_reducible assumption) | assumption)
             have q202 : x25_2 < (l1.length : Int) := of_decide_eq_true (by first | (with_reducible assumption) | assumption)
             obtain ⟨ad202, e202, hx202_0, hx202_1, hx202_2⟩ := at_T42 HR1.out x25_2 p202 q202
             cases e202
             replace hx202_0 := (HB.out.cell (World.block_lt_of_cell? w _ hx202_0)).trans hx202_0
             replace hx202_1 := (HB.out.cell (World.block_lt_of_cell? w _ hx202_1)).trans hx202_1
             replace hx202_2 := (HB.out.cell (World.block_lt_of_cell? w _ hx202_2)).trans hx202_2
             replace p202 := eq_true p202
             replace q202 := eq_true q202
             go_wp2_with (first | ((with_reducible refine gate_dst (N := 13) rfl ?_); refine box_event ?hg (N := 13) ?hd (cs := #[.int .i64 0, .int .i64 0, .int .i64 0]) (t := 42) ?hr ?_; (case hd => rfl); (case hg => rfl); (case hr => first | (go_simp; done) | (go_simp; rfl)); intro gb203 hg w27 hbox hb; have n0_ := Aside0.mk (Kd.R_below (by (with_reducible repeat (first | apply Kd.R_alloc | apply Kd.R_drewN | apply Kd.R_drew)); exact HO_9.out) hb); have n1_ := Aside0.mk (blk_below (g := gb201) (o := .cells #[.string ((rd_T34 l0 x18_1).f0.f0), .string ((rd_T34 l0 x18_1).f0.f1), .int .i64 ((rd_T34 l0 x18_1).f0.f2), .int .i64 ((rd_T34 l0 x18_1).f0.f3), .int .i64 ((rd_T34 l0 x18_1).f0.f4), .int .i64 ((rd_T34 l0 x18_1).f0.f5), .int .i64 ((rd_T34 l0 x18_1).f1), .int .i64 ((rd_T34 l0 x18_1).f2), .int .i64 ((rd_T34 l0 x18_1).f3), .bool ((rd_T34 l0 x18_1).f4)] 34 (0, 0)) (by (with_reducible repeat (first | refine blk_drewN ?_ _ | refine blk_drew ?_ | refine blk_alloc ?_ _)); exact BK201.out) hb); have n2_ := Aside0.mk (below_step (by repeat (first | (with_reducible first | exact HB.out | apply below_alloc | apply pw_below_drewN | apply below_drew1 | refine below_set ?_ GE201.out) | exact HB.out)) hb); have n3_ := Aside0.mk (hbox); have n4_ := Aside0.mk ((by rw [hg]; exact (below_size (by repeat (first | (with_reducible first | exact HB.out | apply below_alloc | apply pw_below_drewN | apply below_drew1 | refine below_set ?_ GE201.out) | exact HB.out))) : w.heap.size ≤ gb203)); have n5_ := Aside0.mk ((by rw [hg]; exact (below_size (by repeat (first | (with_reducible first | exact HB.out | apply below_alloc | apply pw_below_drewN | apply below_drew1 | refine below_set ?_ GE201.out) | exact HB.out))) : w.heap.size ≤ gb203)); have n6_ := Aside0.mk ((by rw [hg]; exact Nat.ne_of_lt (blk_lt (g := gb201) (o := .cells #[.string ((rd_T34 l0 x18_1).f0.f0), .string ((rd_T34 l0 x18_1).f0.f1), .int .i64 ((rd_T34 l0 x18_1).f0.f2), .int .i64 ((rd_T34 l0 x18_1).f0.f3), .int .i64 ((rd_T34 l0 x18_1).f0.f4), .int .i64 ((rd_T34 l0 x18_1).f0.f5), .int .i64 ((rd_T34 l0 x18_1).f1), .int .i64 ((rd_T34 l0 x18_1).f2), .int .i64 ((rd_T34 l0 x18_1).f3), .bool ((rd_T34 l0 x18_1).f4)] 34 (0, 0)) (by (with_reducible repeat (first | refine blk_drewN ?_ _ | refine blk_drew ?_ | refine blk_alloc ?_ _)); exact BK201.out)) : gb201 ≠ gb203)); have n7_ := Aside0.mk ((by rw [hg]; exact Nat.ne_of_gt (blk_lt (g := gb201) (o := .cells #[.string ((rd_T34 l0 x18_1).f0.f0), .string ((rd_T34 l0 x18_1).f0.f1), .int .i64 ((rd_T34 l0 x18_1).f0.f2), .int .i64 ((rd_T34 l0 x18_1).f0.f3), .int .i64 ((rd_T34 l0 x18_1).f0.f4), .int .i64 ((rd_T34 l0 x18_1).f0.f5), .int .i64 ((rd_T34 l0 x18_1).f1), .int .i64 ((rd_T34 l0 x18_1).f2), .int .i64 ((rd_T34 l0 x18_1).f3), .bool ((rd_T34 l0 x18_1).f4)] 34 (0, 0)) (by (with_reducible repeat (first | refine blk_drewN ?_ _ | refine blk_drew ?_ | refine blk_alloc ?_ _)); exact BK201.out)) : gb203 ≠ gb201)); clear HO_9; clear BK201; clear HB; have HO_9 := n0_; have BK201 := n1_; have HB := n2_; have BK203 := n3_; have GW203 := n4_; have GE203 := n5_; have NB201_203 := n6_; have NB203_201 := n7_; clear n0_ n1_ n2_ n3_ n4_ n5_ n6_ n7_; clear hb hbox hg; have hnb28 := NB203_201.out; have hnc28 := NB201_203.out; have hcz29_0 : w27.cell? ⟨gb203, 0, none⟩ = some (.int .i64 0) := (blk_cell BK203.out 0).trans rfl; have hcz29_1 : w27.cell? ⟨gb203, 1, none⟩ = some (.int .i64 0) := (blk_cell BK203.out 1).trans rfl; have hcz29_2 : w27.cell? ⟨gb203, 2, none⟩ = some (.int .i64 0) := (blk_cell BK203.out 2).trans rfl; have hfz29_0 := blk_frozen BK203.out 0; have hfz29_1 := blk_frozen BK203.out 1; have hfz29_2 := blk_frozen BK203.out 2; have hcz30_0 : w27.cell? ⟨gb201, 0, none⟩ = some (.string ((rd_T34 l0 x18_1).f0.f0)) := (blk_cell BK201.out 0).trans rfl; have hcz30_1 : w27.cell? ⟨gb201, 1, none⟩ = some (.string ((rd_T34 l0 x18_1).f0.f1)) := (blk_cell BK201.out 1).trans rfl; have hcz30_2 : w27.cell? ⟨gb201, 2, none⟩ = some (.int .i64 ((rd_T34 l0 x18_1).f0.f2)) := (blk_cell BK201.out 2).trans rfl; have hcz30_3 : w27.cell? ⟨gb201, 3, none⟩ = some (.int .i64 ((rd_T34 l0 x18_1).f0.f3)) := (blk_cell BK201.out 3).trans rfl; have hcz30_4 : w27.cell? ⟨gb201, 4, none⟩ = some (.int .i64 ((rd_T34 l0 x18_1).f0.f4)) := (blk_cell BK201.out 4).trans rfl; have hcz30_5 : w27.cell? ⟨gb201, 5, none⟩ = some (.int .i64 ((rd_T34 l0 x18_1).f0.f5)) := (blk_cell BK201.out 5).trans rfl; have hcz30_6 : w27.cell? ⟨gb201, 6, none⟩ = some (.int .i64 ((rd_T34 l0 x18_1).f1)) := (blk_cell BK201.out 6).trans rfl; have hcz30_7 : w27.cell? ⟨gb201, 7, none⟩ = some (.int .i64 ((rd_T34 l0 x18_1).f2)) := (blk_cell BK201.out 7).trans rfl; have hcz30_8 : w27.cell? ⟨gb201, 8, none⟩ = some (.int .i64 ((rd_T34 l0 x18_1).f3)) := (blk_cell BK201.out 8).trans rfl; have hcz30_9 : w27.cell? ⟨gb201, 9, none⟩ = some (.bool ((rd_T34 l0 x18_1).f4)) := (blk_cell BK201.out 9).trans rfl; have hfz30_0 := blk_frozen BK201.out 0; have hfz30_1 := blk_frozen BK201.out 1; have hfz30_2 := blk_frozen BK201.out 2; have hfz30_3 := blk_frozen BK201.out 3; have hfz30_4 := blk_frozen BK201.out 4; have hfz30_5 := blk_frozen BK201.out 5; have hfz30_6 := blk_frozen BK201.out 6; have hfz30_7 := blk_frozen BK201.out 7; have hfz30_8 := blk_frozen BK201.out 8; have hfz30_9 := blk_frozen BK201.out 9) | ((with_reducible refine gate_callee (f := 19) rfl ?_); refine goesL_ (some 41) rfl rfl Try.func19 (by kernel_rfl) rfl #[.slice (some ad200) l0.length c0, .int .i64 x18_1, .agg #[.int .i64 ((rd_T42 l1 x25_2).f0), .int .i64 ((rd_T42 l1 x25_2).f1), .int .i64 ((rd_T42 l1 x25_2).f2)], .int .i64 a2, .bool a3] rfl (by (try simp only [List.map_toArray, List.map_cons, List.map_nil]); first | done | rfl | (simp only [List.length_drop, List.length_take]; rfl)) ?_; (with_reducible refine (score_Of.calls k2 _ _ l0 x18_1 ((rd_T42 l1 x25_2).f0) ((rd_T42 l1 x25_2).f1) ((rd_T42 l1 x25_2).f2) a2 a3 t204 t205 t206 false _ ?side1 ?side2 A14.out).mono ?_); (case side1 => exact Kd.C_below HR0.out (by repeat (first | (with_reducible first | exact HB.out | apply below_alloc | apply pw_below_drewN | apply below_drew1 | refine below_set ?_ GE201.out | refine below_set ?_ GE203.out) | exact HB.out))); (case side2 => exact HC0.out); rintro e w31 ⟨rfl, hb⟩; refine ⟨_, rfl, ?_⟩; have n0_ := Aside0.mk (Kd.R_below (by (with_reducible repeat (first | apply Kd.R_alloc | apply Kd.R_drewN | apply Kd.R_drew)); exact (Kd.R_mono (Kd.R_far (p := ⟨gb203, 2, none⟩) (Kd.R_far (p := ⟨gb203, 1, none⟩) (Kd.R_far (p := ⟨gb203, 0, none⟩) (Kd.R_types HO_9.out BK203.out (by decide)) (fun _ hk => hk.2) (.int .i64 ((rd_T42 l1 x25_2).f0))) (fun _ hk => hk.2) (.int .i64 ((rd_T42 l1 x25_2).f1))) (fun _ hk => hk.2) (.int .i64 ((rd_T42 l1 x25_2).f2))) (fun _ h_ => h_.1))) hb); have n1_ := Aside0.mk (blk_below (g := gb201) (o := .cells #[.string ((rd_T34 l0 x18_1).f0.f0), .string ((rd_T34 l0 x18_1).f0.f1), .int .i64 ((rd_T34 l0 x18_1).f0.f2), .int .i64 ((rd_T34 l0 x18_1).f0.f3), .int .i64 ((rd_T34 l0 x18_1).f0.f4), .int .i64 ((rd_T34 l0 x18_1).f0.f5), .int .i64 ((rd_T34 l0 x18_1).f1), .int .i64 ((rd_T34 l0 x18_1).f2), .int .i64 ((rd_T34 l0 x18_1).f3), .bool ((rd_T34 l0 x18_1).f4)] 34 (0, 0)) (by (with_reducible repeat (first | refine blk_drewN ?_ _ | refine blk_drew ?_ | refine blk_alloc ?_ _)); refine blk_far ?_ NB201_203.out _; (with_reducible repeat (first | refine blk_drewN ?_ _ | refine blk_drew ?_ | refine blk_alloc ?_ _)); refine blk_far ?_ NB201_203.out _; (with_reducible repeat (first | refine blk_drewN ?_ _ | refine blk_drew ?_ | refine blk_alloc ?_ _)); refine blk_far ?_ NB201_203.out _; (with_reducible repeat (first | refine blk_drewN ?_ _ | refine blk_drew ?_ | refine blk_alloc ?_ _)); exact BK201.out) hb); have n2_ := Aside0.mk (blk_below (g := gb203) (o := .cells #[.int .i64 ((rd_T42 l1 x25_2).f0), .int .i64 ((rd_T42 l1 x25_2).f1), .int .i64 ((rd_T42 l1 x25_2).f2)] 42 (0, 0)) (by (with_reducible repeat (first | refine blk_drewN ?_ _ | refine blk_drew ?_ | refine blk_alloc ?_ _)); refine blk_put (cs := #[.int .i64 ((rd_T42 l1 x25_2).f0), .int .i64 ((rd_T42 l1 x25_2).f1), .int .i64 0]) ?_ 2 _ rfl; (with_reducible repeat (first | refine blk_drewN ?_ _ | refine blk_drew ?_ | refine blk_alloc ?_ _)); refine blk_put (cs := #[.int .i64 ((rd_T42 l1 x25_2).f0), .int .i64 0, .int .i64 0]) ?_ 1 _ rfl; (with_reducible repeat (first | refine blk_drewN ?_ _ | refine blk_drew ?_ | refine blk_alloc ?_ _)); refine blk_put (cs := #[.int .i64 0, .int .i64 0, .int .i64 0]) ?_ 0 _ rfl; (with_reducible repeat (first | refine blk_drewN ?_ _ | refine blk_drew ?_ | refine blk_alloc ?_ _)); exact BK203.out) hb); have n3_ := Aside0.mk (below_step (by repeat (first | (with_reducible first | exact HB.out | apply below_alloc | apply pw_below_drewN | apply below_drew1 | refine below_set ?_ GE201.out | refine below_set ?_ GE203.out) | exact HB.out)) hb); clear HO_9; clear BK201; clear BK203; clear HB; have HO_9 := n0_; have BK201 := n1_; have BK203 := n2_; have HB := n3_; clear n0_ n1_ n2_ n3_; (try clear hb); (try clear hb2); (try clear hk); (try clear hi)) | ((with_reducible refine gate_dst (N := 14) rfl ?_); refine box_event ?hg (N := 14) ?hd (cs := #[.int .i64 0, .int .i64 0, .int .i64 0]) (t := 37) ?hr ?_; (case hd => rfl); (case hg => rfl); (case hr => first | (go_simp; done) | (go_simp; rfl)); intro gb208 hg w32 hbox hb; have n0_ := Aside0.mk (Kd.R_below (Kd.R_elderB (by (with_reducible repeat (first | apply Kd.R_alloc | apply Kd.R_drewN | apply Kd.R_drew)); exact HO_9.out) gb208 (Nat.le_of_eq hg.symm)) hb); have n1_ := Aside0.mk (blk_below (g := gb201) (o := .cells #[.string ((rd_T34 l0 x18_1).f0.f0), .string ((rd_T34 l0 x18_1).f0.f1), .int .i64 ((rd_T34 l0 x18_1).f0.f2), .int .i64 ((rd_T34 l0 x18_1).f0.f3), .int .i64 ((rd_T34 l0 x18_1).f0.f4), .int .i64 ((rd_T34 l0 x18_1).f0.f5), .int .i64 ((rd_T34 l0 x18_1).f1), .int .i64 ((rd_T34 l0 x18_1).f2), .int .i64 ((rd_T34 l0 x18_1).f3), .bool ((rd_T34 l0 x18_1).f4)] 34 (0, 0)) (by (with_reducible repeat (first | refine blk_drewN ?_ _ | refine blk_drew ?_ | refine blk_alloc ?_ _)); exact BK201.out) hb); have n2_ := Aside0.mk (blk_below (g := gb203) (o := .cells #[.int .i64 ((rd_T42 l1 x25_2).f0), .int .i64 ((rd_T42 l1 x25_2).f1), .int .i64 ((rd_T42 l1 x25_2).f2)] 42 (0, 0)) (by (with_reducible repeat (first | refine blk_drewN ?_ _ | refine blk_drew ?_ | refine blk_alloc ?_ _)); exact BK203.out) hb); have n3_ := Aside0.mk (below_step (by repeat (first | (with_reducible first | exact HB.out | apply below_alloc | apply pw_below_drewN | apply below_drew1 | refine below_set ?_ GE201.out | refine below_set ?_ GE203.out) | exact HB.out)) hb); have n4_ := Aside0.mk (hbox); have n5_ := Aside0.mk ((by rw [hg]; exact (below_size (by repeat (first | (with_reducible first | exact HB.out | apply below_alloc | apply pw_below_drewN | apply below_drew1 | refine below_set ?_ GE201.out | refine below_set ?_ GE203.out) | exact HB.out))) : w.heap.size ≤ gb208)); have n6_ := Aside0.mk ((by rw [hg]; exact (below_size (by repeat (first | (with_reducible first | exact HB.out | apply below_alloc | apply pw_below_drewN | apply below_drew1 | refine below_set ?_ GE201.out | refine below_set ?_ GE203.out) | exact HB.out))) : w.heap.size ≤ gb208)); have n7_ := Aside0.mk ((by rw [hg]; exact Nat.ne_of_lt (blk_lt (g := gb201) (o := .cells #[.string ((rd_T34 l0 x18_1).f0.f0), .string ((rd_T34 l0 x18_1).f0.f1), .int .i64 ((rd_T34 l0 x18_1).f0.f2), .int .i64 ((rd_T34 l0 x18_1).f0.f3), .int .i64 ((rd_T34 l0 x18_1).f0.f4), .int .i64 ((rd_T34 l0 x18_1).f0.f5), .int .i64 ((rd_T34 l0 x18_1).f1), .int .i64 ((rd_T34 l0 x18_1).f2), .int .i64 ((rd_T34 l0 x18_1).f3), .bool ((rd_T34 l0 x18_1).f4)] 34 (0, 0)) (by (with_reducible repeat (first | refine blk_drewN ?_ _ | refine blk_drew ?_ | refine blk_alloc ?_ _)); exact BK201.out)) : gb201 ≠ gb208)); have n8_ := Aside0.mk ((by rw [hg]; exact Nat.ne_of_gt (blk_lt (g := gb201) (o := .cells #[.string ((rd_T34 l0 x18_1).f0.f0), .string ((rd_T34 l0 x18_1).f0.f1), .int .i64 ((rd_T34 l0 x18_1).f0.f2), .int .i64 ((rd_T34 l0 x18_1).f0.f3), .int .i64 ((rd_T34 l0 x18_1).f0.f4), .int .i64 ((rd_T34 l0 x18_1).f0.f5), .int .i64 ((rd_T34 l0 x18_1).f1), .int .i64 ((rd_T34 l0 x18_1).f2), .int .i64 ((rd_T34 l0 x18_1).f3), .bool ((rd_T34 l0 x18_1).f4)] 34 (0, 0)) (by (with_reducible repeat (first | refine blk_drewN ?_ _ | refine blk_drew ?_ | refine blk_alloc ?_ _)); exact BK201.out)) : gb208 ≠ gb201)); have n9_ := Aside0.mk ((by rw [hg]; exact Nat.ne_of_lt (blk_lt (g := gb203) (o := .cells #[.int .i64 ((rd_T42 l1 x25_2).f0), .int .i64 ((rd_T42 l1 x25_2).f1), .int .i64 ((rd_T42 l1 x25_2).f2)] 42 (0, 0)) (by (with_reducible repeat (first | refine blk_drewN ?_ _ | refine blk_drew ?_ | refine blk_alloc ?_ _)); exact BK203.out)) : gb203 ≠ gb208)); have n10_ := Aside0.mk ((by rw [hg]; exact Nat.ne_of_gt (blk_lt (g := gb203) (o := .cells #[.int .i64 ((rd_T42 l1 x25_2).f0), .int .i64 ((rd_T42 l1 x25_2).f1), .int .i64 ((rd_T42 l1 x25_2).f2)] 42 (0, 0)) (by (with_reducible repeat (first | refine blk_drewN ?_ _ | refine blk_drew ?_ | refine blk_alloc ?_ _)); exact BK203.out)) : gb208 ≠ gb203)); clear HO_9; clear BK201; clear BK203; clear HB; have HO_9 := n0_; have BK201 := n1_; have BK203 := n2_; have HB := n3_; have BK208 := n4_; have GW208 := n5_; have GE208 := n6_; have NB201_208 := n7_; have NB208_201 := n8_; have NB203_208 := n9_; have NB208_203 := n10_; clear n0_ n1_ n2_ n3_ n4_ n5_ n6_ n7_ n8_ n9_ n10_; clear hb hbox hg; have hnb33 := NB208_201.out; have hnc33 := NB201_208.out; have hnb34 := NB208_203.out; have hnc34 := NB203_208.out; have hcz35_0 : w32.cell? ⟨gb208, 0, none⟩ = some (.int .i64 0) := (blk_cell BK208.out 0).trans rfl; have hcz35_1 : w32.cell? ⟨gb208, 1, none⟩ = some (.int .i64 0) := (blk_cell BK208.out 1).trans rfl; have hcz35_2 : w32.cell? ⟨gb208, 2, none⟩ = some (.int .i64 0) := (blk_cell BK208.out 2).trans rfl; have hfz35_0 := blk_frozen BK208.out 0; have hfz35_1 := blk_frozen BK208.out 1; have hfz35_2 := blk_frozen BK208.out 2))
             go_roundg k2
             case measure => have := HK1.out; have := HK2.out; omega
             case rel => exact ⟨(x9_2), (wrap64 (x18_1 + 1)), (by first | rfl | (simp; done) | (simp [*]; done) | exact congrArg (Value.int _) (by unfold wrap64; omega)), H', ⟨by have := HK1.out; have := HK2.out; omega⟩, ⟨by (with_reducible repeat (first | apply Kd.R_alloc | apply Kd.R_drewN | apply Kd.R_drew)); exact Kd.R_mono (Kd.R_far (p := ⟨gb208, 2, none⟩) (Kd.R_far (p := ⟨gb208, 1, none⟩) (Kd.R_far (p := ⟨gb208, 0, none⟩) (Kd.R_mono HO_9.out (fun k_ hk => (⟨hk, hk.2⟩ : _ ∧ k_ ≠ gb208))) (fun _ hk => hk.2) (.int .i64 t204)) (fun _ hk => hk.2) (.int .i64 t205)) (fun _ hk => hk.2) (.int .i64 t206)) (fun _ hk => trivial)⟩, ⟨by repeat (first | (with_reducible first | exact HB.out | apply below_alloc | apply pw_below_drewN | apply below_drew1 | refine below_set ?_ GE201.out | refine below_set ?_ GE203.out | refine below_set ?_ GE208.out) | exact HB.out)⟩⟩
           ·rw [if_neg c13] at H
            have c13b0 : (((rd_T42 l1 x25_2).f0) == ((rd_T34 l0 x18_1).f0.f5)) = false := beq_eq_false_iff_ne.mpr c13
            have c13b1 : (((rd_T42 l1 x25_2).f0) != ((rd_T34 l0 x18_1).f0.f5)) = true := bne_iff_ne.mpr c13
            have H' := Aside0.mk H
            clear H
            have p202 : 0 ≤ (x25_2 : Int) := of_decide_eq_true (by first | (with_reducible assumption) | assumption)
            have q202 : x25_2 < (l1.length : Int) := of_decide_eq_true (by first | (with_reducible assumption) | assumption)
            obtain ⟨ad202, e202, hx202_0, hx202_1, hx202_2⟩ := at_T42 HR1.out x25_2 p202 q202
            cases e202
            replace hx202_0 := (HB.out.cell (World.block_lt_of_cell? w _ hx202_0)).trans hx202_0
            replace hx202_1 := (HB.out.cell (World.block_lt_of_cell? w _ hx202_1)).trans hx202_1
            replace hx202_2 := (HB.out.cell (World.block_lt_of_cell? w _ hx202_2)).trans hx202_2
            replace p202 := eq_true p202
            replace q202 := eq_true q202
            go_wp2_with (first | ((with_reducible refine gate_dst (N := 13) rfl ?_); refine box_event ?hg (N := 13) ?hd (cs := #[.int .i64 0, .int .i64 0, .int .i64 0]) (t := 42) ?hr ?_; (case hd => rfl); (case hg => rfl); (case hr => first | (go_simp; done) | (go_simp; rfl)); intro gb203 hg w36 hbox hb; have n0_ := Aside0.mk (Kd.R_below (by (with_reducible repeat (first | apply Kd.R_alloc | apply Kd.R_drewN | apply Kd.R_drew)); exact HO_9.out) hb); have n1_ := Aside0.mk (blk_below (g := gb201) (o := .cells #[.string ((rd_T34 l0 x18_1).f0.f0), .string ((rd_T34 l0 x18_1).f0.f1), .int .i64 ((rd_T34 l0 x18_1).f0.f2), .int .i64 ((rd_T34 l0 x18_1).f0.f3), .int .i64 ((rd_T34 l0 x18_1).f0.f4), .int .i64 ((rd_T34 l0 x18_1).f0.f5), .int .i64 ((rd_T34 l0 x18_1).f1), .int .i64 ((rd_T34 l0 x18_1).f2), .int .i64 ((rd_T34 l0 x18_1).f3), .bool ((rd_T34 l0 x18_1).f4)] 34 (0, 0)) (by (with_reducible repeat (first | refine blk_drewN ?_ _ | refine blk_drew ?_ | refine blk_alloc ?_ _)); exact BK201.out) hb); have n2_ := Aside0.mk (below_step (by repeat (first | (with_reducible first | exact HB.out | apply below_alloc | apply pw_below_drewN | apply below_drew1 | refine below_set ?_ GE201.out) | exact HB.out)) hb); have n3_ := Aside0.mk (hbox); have n4_ := Aside0.mk ((by rw [hg]; exact (below_size (by repeat (first | (with_reducible first | exact HB.out | apply below_alloc | apply pw_below_drewN | apply below_drew1 | refine below_set ?_ GE201.out) | exact HB.out))) : w.heap.size ≤ gb203)); have n5_ := Aside0.mk ((by rw [hg]; exact (below_size (by repeat (first | (with_reducible first | exact HB.out | apply below_alloc | apply pw_below_drewN | apply below_drew1 | refine below_set ?_ GE201.out) | exact HB.out))) : w.heap.size ≤ gb203)); have n6_ := Aside0.mk ((by rw [hg]; exact Nat.ne_of_lt (blk_lt (g := gb201) (o := .cells #[.string ((rd_T34 l0 x18_1).f0.f0), .string ((rd_T34 l0 x18_1).f0.f1), .int .i64 ((rd_T34 l0 x18_1).f0.f2), .int .i64 ((rd_T34 l0 x18_1).f0.f3), .int .i64 ((rd_T34 l0 x18_1).f0.f4), .int .i64 ((rd_T34 l0 x18_1).f0.f5), .int .i64 ((rd_T34 l0 x18_1).f1), .int .i64 ((rd_T34 l0 x18_1).f2), .int .i64 ((rd_T34 l0 x18_1).f3), .bool ((rd_T34 l0 x18_1).f4)] 34 (0, 0)) (by (with_reducible repeat (first | refine blk_drewN ?_ _ | refine blk_drew ?_ | refine blk_alloc ?_ _)); exact BK201.out)) : gb201 ≠ gb203)); have n7_ := Aside0.mk ((by rw [hg]; exact Nat.ne_of_gt (blk_lt (g := gb201) (o := .cells #[.string ((rd_T34 l0 x18_1).f0.f0), .string ((rd_T34 l0 x18_1).f0.f1), .int .i64 ((rd_T34 l0 x18_1).f0.f2), .int .i64 ((rd_T34 l0 x18_1).f0.f3), .int .i64 ((rd_T34 l0 x18_1).f0.f4), .int .i64 ((rd_T34 l0 x18_1).f0.f5), .int .i64 ((rd_T34 l0 x18_1).f1), .int .i64 ((rd_T34 l0 x18_1).f2), .int .i64 ((rd_T34 l0 x18_1).f3), .bool ((rd_T34 l0 x18_1).f4)] 34 (0, 0)) (by (with_reducible repeat (first | refine blk_drewN ?_ _ | refine blk_drew ?_ | refine blk_alloc ?_ _)); exact BK201.out)) : gb203 ≠ gb201)); clear HO_9; clear BK201; clear HB; have HO_9 := n0_; have BK201 := n1_; have HB := n2_; have BK203 := n3_; have GW203 := n4_; have GE203 := n5_; have NB201_203 := n6_; have NB203_201 := n7_; clear n0_ n1_ n2_ n3_ n4_ n5_ n6_ n7_; clear hb hbox hg; have hnb37 := NB203_201.out; have hnc37 := NB201_203.out; have hcz38_0 : w36.cell? ⟨gb203, 0, none⟩ = some (.int .i64 0) := (blk_cell BK203.out 0).trans rfl; have hcz38_1 : w36.cell? ⟨gb203, 1, none⟩ = some (.int .i64 0) := (blk_cell BK203.out 1).trans rfl; have hcz38_2 : w36.cell? ⟨gb203, 2, none⟩ = some (.int .i64 0) := (blk_cell BK203.out 2).trans rfl; have hfz38_0 := blk_frozen BK203.out 0; have hfz38_1 := blk_frozen BK203.out 1; have hfz38_2 := blk_frozen BK203.out 2; have hcz39_0 : w36.cell? ⟨gb201, 0, none⟩ = some (.string ((rd_T34 l0 x18_1).f0.f0)) := (blk_cell BK201.out 0).trans rfl; have hcz39_1 : w36.cell? ⟨gb201, 1, none⟩ = some (.string ((rd_T34 l0 x18_1).f0.f1)) := (blk_cell BK201.out 1).trans rfl; have hcz39_2 : w36.cell? ⟨gb201, 2, none⟩ = some (.int .i64 ((rd_T34 l0 x18_1).f0.f2)) := (blk_cell BK201.out 2).trans rfl; have hcz39_3 : w36.cell? ⟨gb201, 3, none⟩ = some (.int .i64 ((rd_T34 l0 x18_1).f0.f3)) := (blk_cell BK201.out 3).trans rfl; have hcz39_4 : w36.cell? ⟨gb201, 4, none⟩ = some (.int .i64 ((rd_T34 l0 x18_1).f0.f4)) := (blk_cell BK201.out 4).trans rfl; have hcz39_5 : w36.cell? ⟨gb201, 5, none⟩ = some (.int .i64 ((rd_T34 l0 x18_1).f0.f5)) := (blk_cell BK201.out 5).trans rfl; have hcz39_6 : w36.cell? ⟨gb201, 6, none⟩ = some (.int .i64 ((rd_T34 l0 x18_1).f1)) := (blk_cell BK201.out 6).trans rfl; have hcz39_7 : w36.cell? ⟨gb201, 7, none⟩ = some (.int .i64 ((rd_T34 l0 x18_1).f2)) := (blk_cell BK201.out 7).trans rfl; have hcz39_8 : w36.cell? ⟨gb201, 8, none⟩ = some (.int .i64 ((rd_T34 l0 x18_1).f3)) := (blk_cell BK201.out 8).trans rfl; have hcz39_9 : w36.cell? ⟨gb201, 9, none⟩ = some (.bool ((rd_T34 l0 x18_1).f4)) := (blk_cell BK201.out 9).trans rfl; have hfz39_0 := blk_frozen BK201.out 0; have hfz39_1 := blk_frozen BK201.out 1; have hfz39_2 := blk_frozen BK201.out 2; have hfz39_3 := blk_frozen BK201.out 3; have hfz39_4 := blk_frozen BK201.out 4; have hfz39_5 := blk_frozen BK201.out 5; have hfz39_6 := blk_frozen BK201.out 6; have hfz39_7 := blk_frozen BK201.out 7; have hfz39_8 := blk_frozen BK201.out 8; have hfz39_9 := blk_frozen BK201.out 9))
            go_roundg k2
            case measure => have := HK1.out; have := HK2.out; omega
            case rel => exact ⟨(x9_2), (wrap64 (x25_2 + 1)), (by first | rfl | (simp; done) | (simp [*]; done) | exact congrArg (Value.int _) (by unfold wrap64; omega)), H', ⟨by have := HK1.out; have := HK2.out; omega⟩, ⟨by (with_reducible repeat (first | apply Kd.R_alloc | apply Kd.R_drewN | apply Kd.R_drew)); exact Kd.R_mono (Kd.R_far (p := ⟨gb203, 2, none⟩) (Kd.R_far (p := ⟨gb203, 1, none⟩) (Kd.R_far (p := ⟨gb203, 0, none⟩) (Kd.R_types HO_9.out BK203.out (by decide)) (fun _ hk => hk.2) (.int .i64 ((rd_T42 l1 x25_2).f0))) (fun _ hk => hk.2) (.int .i64 ((rd_T42 l1 x25_2).f1))) (fun _ hk => hk.2) (.int .i64 ((rd_T42 l1 x25_2).f2))) (fun _ hk => trivial)⟩, ⟨by (with_reducible repeat (first | refine blk_drewN ?_ _ | refine blk_drew ?_ | refine blk_alloc ?_ _)); refine blk_far ?_ NB201_203.out _; (with_reducible repeat (first | refine blk_drewN ?_ _ | refine blk_drew ?_ | refine blk_alloc ?_ _)); refine blk_far ?_ NB201_203.out _; (with_reducible repeat (first | refine blk_drewN ?_ _ | refine blk_drew ?_ | refine blk_alloc ?_ _)); refine blk_far ?_ NB201_203.out _; (with_reducible repeat (first | refine blk_drewN ?_ _ | refine blk_drew ?_ | refine blk_alloc ?_ _)); exact BK201.out⟩, ⟨by repeat (first | (with_reducible first | exact HB.out | apply below_alloc | apply pw_below_drewN | apply below_drew1 | refine below_set ?_ GE201.out | refine below_set ?_ GE203.out) | exact HB.out)⟩⟩
          ·rw [if_neg c12] at H
           exact absurd H (by simp)
         ·rw [if_neg c11] at H
          exact absurd H (by simp)
        ·rw [if_neg c10] at H
         have c10b0 : decide (x25_2 < (l1.length : Int)) = false := decide_eq_false c10
         clear c10
         have H' := Aside0.mk H
         clear H
         go_wp2
         go_roundg k2
         case measure => have := HK1.out; have := HK2.out; omega
         case rel => exact ⟨(x9_2), (wrap64 (x18_1 + 1)), (by first | rfl | (simp; done) | (simp [*]; done) | exact congrArg (Value.int _) (by unfold wrap64; omega)), H', ⟨by have := HK1.out; have := HK2.out; omega⟩, ⟨by (with_reducible repeat (first | apply Kd.R_alloc | apply Kd.R_drewN | apply Kd.R_drew)); exact HO_9.out⟩, ⟨by repeat (first | (with_reducible first | exact HB.out | apply below_alloc | apply pw_below_drewN | apply below_drew1 | refine below_set ?_ GE201.out) | exact HB.out)⟩⟩
     ·rw [if_neg c7] at H
      exact absurd H (by simp)
    ·rw [if_neg c6] at H
     exact absurd H (by simp)
   ·rw [if_neg c5] at H
    have c5b0 : decide (x18_1 < (l0.length : Int)) = false := decide_eq_false c5
    clear c5
    obtain rfl := Option.some.inj H
    go_wp2
    go_ret
    exact ⟨_, by first | rfl | (simp [errW_none, errW_some] <;> rfl) | (simp [*, errW_none, errW_some] <;> rfl), by (with_reducible repeat (first | apply Kd.R_alloc | apply Kd.R_drewN | apply Kd.R_drew)); exact HO_9.out, by repeat (first | (with_reducible first | exact HB.out | apply below_alloc | apply pw_below_drewN | apply below_drew1) | exact HB.out)⟩

/-! ### flagstoneref39_Class: function 14 -/
def flagstoneref39_Class.l0 : Nat → Int → Int → Option (Int)
 | 0, _, _ => none
 | k + 1, x0, x3 => if x0 > 0 then (flagstoneref39_Class.l0 k (wrap64 (Int.tdiv x0 2)) (wrap64 (x3 + 1))) else (some x3)
def flagstoneref39_Class.f (k : Nat) (a0 : Int) : Option (Int) := flagstoneref39_Class.l0 k a0 0
theorem flagstoneref39_Class.mono_l : ∀ k, (∀ y0 y1, LeO (flagstoneref39_Class.l0 k y0 y1) (flagstoneref39_Class.l0 (k + 1) y0 y1))
 | 0 => fun _ _ r h => by simp [flagstoneref39_Class.l0] at h
 | k + 1 => by
  have ih0 := flagstoneref39_Class.mono_l k
  ·intro y0 y1
   unfold flagstoneref39_Class.l0
   repeat' first
   | (with_reducible exact ih0 _ _)
   | (with_reducible exact LeO.refl _)
   | (with_reducible exact LeO.none _)
   | (with_reducible refine LeO.ite ?_ ?_)
   | (with_reducible refine LeO.bind ?_ (fun _ => ?_))
   | exact ih0 _ _
   | exact LeO.none _
   | refine LeO.ite ?_ ?_
   | refine LeO.bind ?_ (fun _ => ?_)
theorem flagstoneref39_Class.mono : ∀ a0 k, LeO (flagstoneref39_Class.f k a0) (flagstoneref39_Class.f (k + 1) a0) := by
 intro a0 k
 have ih0 := flagstoneref39_Class.mono_l k
 unfold flagstoneref39_Class.f
 repeat' first
   | (with_reducible exact ih0 _ _)
   | (with_reducible exact LeO.refl _)
   | (with_reducible exact LeO.none _)
   | (with_reducible refine LeO.ite ?_ ?_)
   | (with_reducible refine LeO.bind ?_ (fun _ => ?_))
   | exact ih0 _ _
   | exact LeO.none _
   | refine LeO.ite ?_ ?_
   | refine LeO.bind ?_ (fun _ => ?_)
set_option maxHeartbeats 8000000 in
set_option maxRecDepth 100000 in
theorem flagstoneref39_Class.calls (k : Nat) (a0 : Int) (r : Int) (w : World) (h : flagstoneref39_Class.f k a0 = some r) :
  Calls Try.prog 14 #[.int .i64 a0] w fun e w' => e = .returned (.int .i64 r) ∧ Drawn0 w w' := by
 have H : (flagstoneref39_Class.l0 k a0 0) = some r := h
 clear h
 have H' := Aside0.mk H
 clear H
 go_enter Try.func14, Try.ntmps14
 go_wp2
 go_loopg [0, 3] k (fun kq v0 v3 w' => ∃ (x0_1 : Int) (x3_1 : Int), v0 = .int .i64 x0_1 ∧ v3 = .int .i64 x3_1 ∧ Aside0 (flagstoneref39_Class.l0 kq x0_1 x3_1 = some r) ∧ Aside0 (kq ≤ k) ∧ Drawn0 w w')
 case atStart => exact ⟨(a0), (0), (by first | rfl | (simp; done) | (simp [*]; done) | exact congrArg (Value.int _) (by unfold wrap64; omega)), (by first | rfl | (simp; done) | (simp [*]; done) | exact congrArg (Value.int _) (by unfold wrap64; omega)), H', ⟨Nat.le_refl _⟩, by repeat (first | exact Drawn0.refl _ | apply Drawn0.step)⟩
 case round =>
  clear H'
  try clear c1
  obtain ⟨x0_1, x3_1, rfl, rfl, HA, HK1, ⟨m1, rfl⟩⟩ := hrel
  cases gk with
  | zero => exact absurd HA.out (by simp [flagstoneref39_Class.l0])
  | succ k1 =>
   have H := HA.out
   clear HA
   simp only [flagstoneref39_Class.l0] at H
   by_cases c2 : x0_1 > 0
   ·rw [if_pos c2] at H
    have c2b0 : decide (0 < x0_1) = true := decide_eq_true c2
    clear c2
    have H' := Aside0.mk H
    clear H
    go_wp2
    go_roundg k1
    case measure => have := HK1.out; omega
    case rel => exact ⟨(wrap64 (Int.tdiv x0_1 2)), (wrap64 (x3_1 + 1)), (by first | rfl | (simp; done) | (simp [*]; done) | exact congrArg (Value.int _) (by unfold wrap64; omega)), (by first | rfl | (simp; done) | (simp [*]; done) | exact congrArg (Value.int _) (by unfold wrap64; omega)), H', ⟨by have := HK1.out; omega⟩, by repeat (first | exact Drawn0.refl _ | apply Drawn0.step)⟩
   ·rw [if_neg c2] at H
    have c2b0 : decide (0 < x0_1) = false := decide_eq_false c2
    clear c2
    obtain rfl := Option.some.inj H
    go_wp2
    go_ret
    exact ⟨by first | rfl | (simp; done) | (simp [*]; done), by repeat (first | exact Drawn0.refl _ | apply Drawn0.step)⟩

/-! ### flagstoneref39_floor: function 30 -/
def flagstoneref39_floor.f (a0 : Int) (a1 : Int) : Option (Int) := if a1 = 0 then (none) else (if (Int.tmod a0 a1) < 0 then (some (wrap64 ((wrap64 (Int.tdiv a0 a1)) - 1))) else (some (wrap64 (Int.tdiv a0 a1))))
set_option maxHeartbeats 8000000 in
set_option maxRecDepth 100000 in
theorem flagstoneref39_floor.calls (a0 : Int) (a1 : Int) (r : Int) (w : World) (h : flagstoneref39_floor.f a0 a1 = some r) :
  Calls Try.prog 30 #[.int .i64 a0, .int .i64 a1] w fun e w' => e = .returned (.int .i64 r) ∧ Drawn0 w w' := by
 have H : (if a1 = 0 then (none) else (if (Int.tmod a0 a1) < 0 then (some (wrap64 ((wrap64 (Int.tdiv a0 a1)) - 1))) else (some (wrap64 (Int.tdiv a0 a1))))) = some r := h
 clear h
 by_cases c3 : a1 = 0
 ·rw [if_pos c3] at H
  exact absurd H (by simp)
 ·rw [if_neg c3] at H
  have c3b0 : (a1 == 0) = false := beq_eq_false_iff_ne.mpr c3
  have c3b1 : (a1 != 0) = true := bne_iff_ne.mpr c3
  by_cases c4 : (Int.tmod a0 a1) < 0
  ·rw [if_pos c4] at H
   have c4b0 : decide ((Int.tmod a0 a1) < 0) = true := decide_eq_true c4
   clear c4
   obtain rfl := Option.some.inj H
   go_enter Try.func30, Try.ntmps30
   go_wp2
   go_ret
   exact ⟨by first | rfl | (simp; done) | (simp [*]; done), by repeat (first | exact Drawn0.refl _ | apply Drawn0.step)⟩
  ·rw [if_neg c4] at H
   have c4b0 : decide ((Int.tmod a0 a1) < 0) = false := decide_eq_false c4
   clear c4
   obtain rfl := Option.some.inj H
   go_enter Try.func30, Try.ntmps30
   go_wp2
   go_ret
   exact ⟨by first | rfl | (simp; done) | (simp [*]; done), by repeat (first | exact Drawn0.refl _ | apply Drawn0.step)⟩

/-! ### flagstoneref39_Predict: function 16 -/
mutual
def flagstoneref39_Predict.j0 : Nat → List (S34) → Int → Int → Int → Bool → Option (Int)
 | 0, _, _, _, _, _ => none
 | k + 1, x0, x1, x2, x3, x21 => if x21 = true then (some 0) else (flagstoneref39_Predict.l0 k x0 x1 x2 x3 0 0 0 0 0)
def flagstoneref39_Predict.l0 : Nat → List (S34) → Int → Int → Int → Int → Int → Int → Int → Int → Option (Int)
 | 0, _, _, _, _, _, _, _, _, _ => none
 | k + 1, x0, x1, x2, x3, x9, x10, x11, x12, x13 => if x13 < x1 then (if 0 ≤ x13 then (if x13 < (x0.length : Int) then (if ((rd_T34 x0 x13).f0.f4) = x2 then ((flagstoneref39_Class.f k ((rd_T34 x0 x13).f3)).bind fun t215 => (if 0 ≤ x1 then (if x1 < (x0.length : Int) then ((flagstoneref39_Class.f k ((rd_T34 x0 x1).f3)).bind fun t217 => (if t215 = t217 then (flagstoneref39_Predict.l0 k x0 x1 x2 x3 (wrap64 (x9 + ((rd_T34 x0 x13).f1))) (wrap64 (x10 + 1)) (wrap64 (x11 + ((rd_T34 x0 x13).f1))) (wrap64 (x12 + 1)) (wrap64 (x13 + 1))) else (flagstoneref39_Predict.l0 k x0 x1 x2 x3 (wrap64 (x9 + ((rd_T34 x0 x13).f1))) (wrap64 (x10 + 1)) x11 x12 (wrap64 (x13 + 1))))) else (none)) else (none))) else (flagstoneref39_Predict.l0 k x0 x1 x2 x3 x9 x10 x11 x12 (wrap64 (x13 + 1)))) else (none)) else (none)) else (if x12 > 0 then ((flagstoneref39_floor.f x11 x12).bind fun t219 => (some t219)) else (if x10 > 0 then ((flagstoneref39_floor.f x9 x10).bind fun t220 => (some t220)) else ((flagstoneref39_floor.f x3 2).bind fun t221 => (some t221))))
end
def flagstoneref39_Predict.f (k : Nat) (l0 : List (S34)) (a1 : Int) (a2 : Int) (a3 : Int) : Option (Int) := if a1 < 0 then (flagstoneref39_Predict.j0 k l0 a1 a2 a3 true) else (flagstoneref39_Predict.j0 k l0 a1 a2 a3 (decide (a1 ≥ (l0.length : Int))))
theorem flagstoneref39_Predict.mono_l : ∀ k, (∀ y0 y1 y2 y3 y4, LeO (flagstoneref39_Predict.j0 k y0 y1 y2 y3 y4) (flagstoneref39_Predict.j0 (k + 1) y0 y1 y2 y3 y4)) ∧ (∀ y0 y1 y2 y3 y4 y5 y6 y7 y8, LeO (flagstoneref39_Predict.l0 k y0 y1 y2 y3 y4 y5 y6 y7 y8) (flagstoneref39_Predict.l0 (k + 1) y0 y1 y2 y3 y4 y5 y6 y7 y8))
 | 0 => ⟨fun _ _ _ _ _ r h => by simp [flagstoneref39_Predict.j0] at h, fun _ _ _ _ _ _ _ _ _ r h => by simp [flagstoneref39_Predict.l0] at h⟩
 | k + 1 => by
  obtain ⟨ih0, ih1⟩ := flagstoneref39_Predict.mono_l k
  refine ⟨?_, ?_⟩
  ·intro y0 y1 y2 y3 y4
   unfold flagstoneref39_Predict.j0
   repeat' first
   | (with_reducible exact ih0 _ _ _ _ _)
   | (with_reducible exact ih1 _ _ _ _ _ _ _ _ _)
   | (with_reducible exact flagstoneref39_Class.mono _ _)
   | (with_reducible exact LeO.refl _)
   | (with_reducible exact LeO.none _)
   | (with_reducible refine LeO.ite ?_ ?_)
   | (with_reducible refine LeO.bind ?_ (fun _ => ?_))
   | exact ih0 _ _ _ _ _
   | exact ih1 _ _ _ _ _ _ _ _ _
   | exact flagstoneref39_Class.mono _ _
   | exact LeO.none _
   | refine LeO.ite ?_ ?_
   | refine LeO.bind ?_ (fun _ => ?_)
  ·intro y0 y1 y2 y3 y4 y5 y6 y7 y8
   unfold flagstoneref39_Predict.l0
   repeat' first
   | (with_reducible exact ih0 _ _ _ _ _)
   | (with_reducible exact ih1 _ _ _ _ _ _ _ _ _)
   | (with_reducible exact flagstoneref39_Class.mono _ _)
   | (with_reducible exact LeO.refl _)
   | (with_reducible exact LeO.none _)
   | (with_reducible refine LeO.ite ?_ ?_)
   | (with_reducible refine LeO.bind ?_ (fun _ => ?_))
   | exact ih0 _ _ _ _ _
   | exact ih1 _ _ _ _ _ _ _ _ _
   | exact flagstoneref39_Class.mono _ _
   | exact LeO.none _
   | refine LeO.ite ?_ ?_
   | refine LeO.bind ?_ (fun _ => ?_)
theorem flagstoneref39_Predict.mono : ∀ a0 a1 a2 a3 k, LeO (flagstoneref39_Predict.f k a0 a1 a2 a3) (flagstoneref39_Predict.f (k + 1) a0 a1 a2 a3) := by
 intro a0 a1 a2 a3 k
 obtain ⟨ih0, ih1⟩ := flagstoneref39_Predict.mono_l k
 unfold flagstoneref39_Predict.f
 repeat' first
   | (with_reducible exact ih0 _ _ _ _ _)
   | (with_reducible exact ih1 _ _ _ _ _ _ _ _ _)
   | (with_reducible exact flagstoneref39_Class.mono _ _)
   | (with_reducible exact LeO.refl _)
   | (with_reducible exact LeO.none _)
   | (with_reducible refine LeO.ite ?_ ?_)
   | (with_reducible refine LeO.bind ?_ (fun _ => ?_))
   | exact ih0 _ _ _ _ _
   | exact ih1 _ _ _ _ _ _ _ _ _
   | exact flagstoneref39_Class.mono _ _
   | exact LeO.none _
   | refine LeO.ite ?_ ?_
   | refine LeO.bind ?_ (fun _ => ?_)
set_option maxHeartbeats 8000000 in
set_option maxRecDepth 100000 in
theorem flagstoneref39_Predict.calls (k : Nat) (A0 : Option Addr) (c0 : Nat) (l0 : List (S34)) (a1 : Int) (a2 : Int) (a3 : Int) (r : Int) (w : World) (hr0 : Kd.C k34 w A0 l0.length l0) (hc0 : l0.length ≤ c0) (h : flagstoneref39_Predict.f k l0 a1 a2 a3 = some r) :
  Calls Try.prog 16 #[.slice A0 l0.length c0, .int .i64 a1, .int .i64 a2, .int .i64 a3] w fun e w' => e = .returned (.int .i64 r) ∧ Drawn0 w w' := by
 have HR0 := Aside0.mk hr0
 have HC0 := Aside0.mk hc0
 clear hr0 hc0
 have H : (if a1 < 0 then (flagstoneref39_Predict.j0 k l0 a1 a2 a3 true) else (flagstoneref39_Predict.j0 k l0 a1 a2 a3 (decide (a1 ≥ (l0.length : Int))))) = some r := h
 clear h
 have HC5 := Aside0.mk H
 clear H
 go_enter Try.func16, Try.ntmps16
 go_upto_region 1 with (fail)
 repeat (go_quiet (fail); go_upto_region 1 with (fail))
 go_cut [21] (fun v21 wc => ∃ (kq : Nat) (x21_4 : Bool), v21 = .bool x21_4 ∧ Aside0 (flagstoneref39_Predict.j0 kq l0 a1 a2 a3 x21_4 = some r) ∧ Aside0 (kq ≤ k) ∧ Drawn0 w wc)
 case first =>
  have H := HC5.out
  clear HC5
  by_cases c6 : a1 < 0
  ·rw [if_pos c6] at H
   have c6b0 : decide (a1 < 0) = true := decide_eq_true c6
   clear c6
   (first | rw [c6b0] | (simp only [i64_w, i32_w]; rw [c6b0]) | skip)
   have H' := Aside0.mk H
   clear H
   go_wp2
   repeat (go_quiet (fail); try go_wp2)
   go_meet
   case rel => exact ⟨_, (true), (by first | rfl | (simp; done) | (simp [*]; done) | exact congrArg (Value.int _) (by unfold wrap64; omega)), H', ⟨by first | omega | exact Nat.le_refl _⟩, by repeat (first | exact Drawn0.refl _ | apply Drawn0.step)⟩
  ·rw [if_neg c6] at H
   have c6b0 : decide (a1 < 0) = false := decide_eq_false c6
   clear c6
   (first | rw [c6b0] | (simp only [i64_w, i32_w]; rw [c6b0]) | skip)
   have H' := Aside0.mk H
   clear H
   go_wp2
   repeat (go_quiet (fail); try go_wp2)
   go_meet
   case rel => exact ⟨_, (decide (a1 ≥ (l0.length : Int))), (by first | rfl | (simp; done) | (simp [*]; done) | exact congrArg (Value.int _) (by unfold wrap64; omega)), H', ⟨by first | omega | exact Nat.le_refl _⟩, by repeat (first | exact Drawn0.refl _ | apply Drawn0.step)⟩
 case rest =>
  clear HC5
  try clear c1
  try clear p2
  try clear c6
  try clear c6b0
  try clear p6
  obtain ⟨kq, x21_4, rfl, HA, HJ4, ⟨mc4, rfl⟩⟩ := hcut
  cases kq with
  | zero => exact absurd HA.out (by simp [flagstoneref39_Predict.j0])
  | succ kj4 =>
   have H := HA.out
   clear HA
   simp only [flagstoneref39_Predict.j0] at H
   by_cases c7 : x21_4 = true
   ·subst c7
    have H1 : (some 0) = some r := by rw [if_pos rfl] at H; exact H
    clear H
    have H := H1
    clear H1
    obtain rfl := Option.some.inj H
    go_wp2
    repeat (go_quiet (fail); try go_wp2)
    go_ret
    exact ⟨by first | rfl | (simp; done) | (simp [*]; done), by repeat (first | exact Drawn0.refl _ | apply Drawn0.step)⟩
   ·replace c7 := Bool.eq_false_iff.mpr c7
    subst c7
    have H1 : (flagstoneref39_Predict.l0 kj4 l0 a1 a2 a3 0 0 0 0 0) = some r := by rw [if_neg (show ¬ (false = true) by decide)] at H; exact H
    clear H
    have H := H1
    clear H1
    have H' := Aside0.mk H
    clear H
    go_wp2
    repeat (go_quiet (fail); try go_wp2)
    go_loopg [9, 10, 11, 12, 13] kj4 (fun kq v9 v10 v11 v12 v13 w' => ∃ (x9_2 : Int) (x10_2 : Int) (x11_2 : Int) (x12_2 : Int) (x13_2 : Int), v9 = .int .i64 x9_2 ∧ v10 = .int .i64 x10_2 ∧ v11 = .int .i64 x11_2 ∧ v12 = .int .i64 x12_2 ∧ v13 = .int .i64 x13_2 ∧ Aside0 (flagstoneref39_Predict.l0 kq l0 a1 a2 a3 x9_2 x10_2 x11_2 x12_2 x13_2 = some r) ∧ Aside0 (kq ≤ kj4) ∧ Drawn0 w w')
    case atStart => exact ⟨(0), (0), (0), (0), (0), (by first | rfl | (simp; done) | (simp [*]; done) | exact congrArg (Value.int _) (by unfold wrap64; omega)), (by first | rfl | (simp; done) | (simp [*]; done) | exact congrArg (Value.int _) (by unfold wrap64; omega)), (by first | rfl | (simp; done) | (simp [*]; done) | exact congrArg (Value.int _) (by unfold wrap64; omega)), (by first | rfl | (simp; done) | (simp [*]; done) | exact congrArg (Value.int _) (by unfold wrap64; omega)), (by first | rfl | (simp; done) | (simp [*]; done) | exact congrArg (Value.int _) (by unfold wrap64; omega)), H', ⟨Nat.le_refl _⟩, by repeat (first | exact Drawn0.refl _ | apply Drawn0.step)⟩
    case round =>
     clear H'
     try clear c1
     try clear p2
     try clear c4
     try clear c6
     try clear c6b0
     try clear p6
     try clear c7
     try clear p2
     try clear p6
     obtain ⟨x9_2, x10_2, x11_2, x12_2, x13_2, rfl, rfl, rfl, rfl, rfl, HA, HK2, ⟨m2, rfl⟩⟩ := hrel
     cases gk with
     | zero => exact absurd HA.out (by simp [flagstoneref39_Predict.l0])
     | succ k2 =>
      have H := HA.out
      clear HA
      simp only [flagstoneref39_Predict.l0] at H
      by_cases c8 : x13_2 < a1
      ·rw [if_pos c8] at H
       have c8b0 : decide (x13_2 < a1) = true := decide_eq_true c8
       clear c8
       by_cases c9 : 0 ≤ x13_2
       ·rw [if_pos c9] at H
        have c9b0 : decide (0 ≤ x13_2) = true := decide_eq_true c9
        clear c9
        by_cases c10 : x13_2 < (l0.length : Int)
        ·rw [if_pos c10] at H
         have c10b0 : decide (x13_2 < (l0.length : Int)) = true := decide_eq_true c10
         clear c10
         by_cases c11 : ((rd_T34 l0 x13_2).f0.f4) = a2
         ·rw [if_pos c11] at H
          have c11b0 : (((rd_T34 l0 x13_2).f0.f4) == a2) = true := beq_iff_eq.mpr c11
          have c11b1 : (((rd_T34 l0 x13_2).f0.f4) != a2) = false := bne_eq_false_iff_eq.mpr c11
          clear c11
          replace H := Option.bind_eq_some_iff.mp H
          obtain ⟨t215, A120, H⟩ := H
          replace H : (if 0 ≤ a1 then (if a1 < (l0.length : Int) then ((flagstoneref39_Class.f k2 ((rd_T34 l0 a1).f3)).bind fun t217 => (if t215 = t217 then (flagstoneref39_Predict.l0 k2 l0 a1 a2 a3 (wrap64 (x9_2 + ((rd_T34 l0 x13_2).f1))) (wrap64 (x10_2 + 1)) (wrap64 (x11_2 + ((rd_T34 l0 x13_2).f1))) (wrap64 (x12_2 + 1)) (wrap64 (x13_2 + 1))) else (flagstoneref39_Predict.l0 k2 l0 a1 a2 a3 (wrap64 (x9_2 + ((rd_T34 l0 x13_2).f1))) (wrap64 (x10_2 + 1)) x11_2 x12_2 (wrap64 (x13_2 + 1))))) else (none)) else (none)) = some r := H
          have A12 := Aside0.mk A120
          clear A120
          by_cases c13 : 0 ≤ a1
          ·rw [if_pos c13] at H
           have c13b0 : decide (0 ≤ a1) = true := decide_eq_true c13
           clear c13
           by_cases c14 : a1 < (l0.length : Int)
           ·rw [if_pos c14] at H
            have c14b0 : decide (a1 < (l0.length : Int)) = true := decide_eq_true c14
            clear c14
            replace H := Option.bind_eq_some_iff.mp H
            obtain ⟨t217, A150, H⟩ := H
            replace H : (if t215 = t217 then (flagstoneref39_Predict.l0 k2 l0 a1 a2 a3 (wrap64 (x9_2 + ((rd_T34 l0 x13_2).f1))) (wrap64 (x10_2 + 1)) (wrap64 (x11_2 + ((rd_T34 l0 x13_2).f1))) (wrap64 (x12_2 + 1)) (wrap64 (x13_2 + 1))) else (flagstoneref39_Predict.l0 k2 l0 a1 a2 a3 (wrap64 (x9_2 + ((rd_T34 l0 x13_2).f1))) (wrap64 (x10_2 + 1)) x11_2 x12_2 (wrap64 (x13_2 + 1)))) = some r := H
            have A15 := Aside0.mk A150
            clear A150
            by_cases c16 : t215 = t217
            ·rw [if_pos c16] at H
             have c16b0 : (t215 == t217) = true := beq_iff_eq.mpr c16
             have c16b1 : (t215 != t217) = false := bne_eq_false_iff_eq.mpr c16
             clear c16
             have H' := Aside0.mk H
             clear H
             have p212 : 0 ≤ (x13_2 : Int) := of_decide_eq_true (by first | (with_reducible assumption) | assumption)
             have q212 : x13_2 < (l0.length : Int) := of_decide_eq_true (by first | (with_reducible assumption) | assumption)
             obtain ⟨ad212, e212, hx212_0, hx212_1, hx212_2, hx212_3, hx212_4, hx212_5, hx212_6, hx212_7, hx212_8, hx212_9⟩ := at_T34 HR0.out x13_2 p212 q212
             cases e212
             replace p212 := eq_true p212
             replace q212 := eq_true q212
             have p213 : 0 ≤ (x13_2 : Int) := of_decide_eq_true (by first | (with_reducible assumption) | assumption)
             have q213 : x13_2 < (l0.length : Int) := of_decide_eq_true (by first | (with_reducible assumption) | assumption)
             obtain ⟨ad213, e213, hx213_0, hx213_1, hx213_2, hx213_3, hx213_4, hx213_5, hx213_6, hx213_7, hx213_8, hx213_9⟩ := at_T34 HR0.out x13_2 p213 q213
             obtain rfl : ad212 = ad213 := (by injection e213)
             replace p213 := eq_true p213
             replace q213 := eq_true q213
             have p214 : 0 ≤ (x13_2 : Int) := of_decide_eq_true (by first | (with_reducible assumption) | assumption)
             have q214 : x13_2 < (l0.length : Int) := of_decide_eq_true (by first | (with_reducible assumption) | assumption)
             obtain ⟨ad214, e214, hx214_0, hx214_1, hx214_2, hx214_3, hx214_4, hx214_5, hx214_6, hx214_7, hx214_8, hx214_9⟩ := at_T34 HR0.out x13_2 p214 q214
             obtain rfl : ad212 = ad214 := (by injection e214)
             replace p214 := eq_true p214
             replace q214 := eq_true q214
             go_wp2_with (first | (go_at_call 14; (with_reducible refine (flagstoneref39_Class.calls k2 ((rd_T34 l0 x13_2).f3) t215 _ A12.out).mono ?_); rintro e w' ⟨rfl, ⟨nd, rfl⟩⟩; (try first | exact ⟨rfl, _, World.drewN_drewN _ _ _⟩ | exact ⟨rfl, _, Eq.trans (World.drewN_drewN _ _ _) (congrArg (World.drewN _) (Nat.add_assoc _ _ _))⟩); have p216 : 0 ≤ (a1 : Int) := of_decide_eq_true (by first | (with_reducible assumption) | assumption); have q216 : a1 < (l0.length : Int) := of_decide_eq_true (by first | (with_reducible assumption) | assumption); obtain ⟨ad216, e216, hx216_0, hx216_1, hx216_2, hx216_3, hx216_4, hx216_5, hx216_6, hx216_7, hx216_8, hx216_9⟩ := at_T34 HR0.out a1 p216 q216; obtain rfl : ad212 = ad216 := (by injection e216); replace p216 := eq_true p216; replace q216 := eq_true q216) | (go_at_call 14; (with_reducible refine (flagstoneref39_Class.calls k2 ((rd_T34 l0 a1).f3) t217 _ A15.out).mono ?_); rintro e w' ⟨rfl, ⟨nd, rfl⟩⟩; (try first | exact ⟨rfl, _, World.drewN_drewN _ _ _⟩ | exact ⟨rfl, _, Eq.trans (World.drewN_drewN _ _ _) (congrArg (World.drewN _) (Nat.add_assoc _ _ _))⟩); have p218 : 0 ≤ (x13_2 : Int) := of_decide_eq_true (by first | (with_reducible assumption) | assumption); have q218 : x13_2 < (l0.length : Int) := of_decide_eq_true (by first | (with_reducible assumption) | assumption); obtain ⟨ad218, e218, hx218_0, hx218_1, hx218_2, hx218_3, hx218_4, hx218_5, hx218_6, hx218_7, hx218_8, hx218_9⟩ := at_T34 HR0.out x13_2 p218 q218; obtain rfl : ad212 = ad218 := (by injection e218); replace p218 := eq_true p218; replace q218 := eq_true q218))
             repeat (go_quiet (first | (go_at_call 14; (with_reducible refine (flagstoneref39_Class.calls k2 ((rd_T34 l0 x13_2).f3) t215 _ A12.out).mono ?_); rintro e w' ⟨rfl, ⟨nd, rfl⟩⟩; (try first | exact ⟨rfl, _, World.drewN_drewN _ _ _⟩ | exact ⟨rfl, _, Eq.trans (World.drewN_drewN _ _ _) (congrArg (World.drewN _) (Nat.add_assoc _ _ _))⟩); have p216 : 0 ≤ (a1 : Int) := of_decide_eq_true (by first | (with_reducible assumption) | assumption); have q216 : a1 < (l0.length : Int) := of_decide_eq_true (by first | (with_reducible assumption) | assumption); obtain ⟨ad216, e216, hx216_0, hx216_1, hx216_2, hx216_3, hx216_4, hx216_5, hx216_6, hx216_7, hx216_8, hx216_9⟩ := at_T34 HR0.out a1 p216 q216; obtain rfl : ad212 = ad216 := (by injection e216); replace p216 := eq_true p216; replace q216 := eq_true q216) | (go_at_call 14; (with_reducible refine (flagstoneref39_Class.calls k2 ((rd_T34 l0 a1).f3) t217 _ A15.out).mono ?_); rintro e w' ⟨rfl, ⟨nd, rfl⟩⟩; (try first | exact ⟨rfl, _, World.drewN_drewN _ _ _⟩ | exact ⟨rfl, _, Eq.trans (World.drewN_drewN _ _ _) (congrArg (World.drewN _) (Nat.add_assoc _ _ _))⟩); have p218 : 0 ≤ (x13_2 : Int) := of_decide_eq_true (by first | (with_reducible assumption) | assumption); have q218 : x13_2 < (l0.length : Int) := of_decide_eq_true (by first | (with_reducible assumption) | assumption); obtain ⟨ad218, e218, hx218_0, hx218_1, hx218_2, hx218_3, hx218_4, hx218_5, hx218_6, hx218_7, hx218_8, hx218_9⟩ := at_T34 HR0.out x13_2 p218 q218; obtain rfl : ad212 = ad218 := (by injection e218); replace p218 := eq_true p218; replace q218 := eq_true q218)); try go_wp2_with (first | (go_at_call 14; (with_reducible refine (flagstoneref39_Class.calls k2 ((rd_T34 l0 x13_2).f3) t215 _ A12.out).mono ?_); rintro e w' ⟨rfl, ⟨nd, rfl⟩⟩; (try first | exact ⟨rfl, _, World.drewN_drewN _ _ _⟩ | exact ⟨rfl, _, Eq.trans (World.drewN_drewN _ _ _) (congrArg (World.drewN _) (Nat.add_assoc _ _ _))⟩); have p216 : 0 ≤ (a1 : Int) := of_decide_eq_true (by first | (with_reducible assumption) | assumption); have q216 : a1 < (l0.length : Int) := of_decide_eq_true (by first | (with_reducible assumption) | assumption); obtain ⟨ad216, e216, hx216_0, hx216_1, hx216_2, hx216_3, hx216_4, hx216_5, hx216_6, hx216_7, hx216_8, hx216_9⟩ := at_T34 HR0.out a1 p216 q216; obtain rfl : ad212 = ad216 := (by injection e216); replace p216 := eq_true p216; replace q216 := eq_true q216) | (go_at_call 14; (with_reducible refine (flagstoneref39_Class.calls k2 ((rd_T34 l0 a1).f3) t217 _ A15.out).mono ?_); rintro e w' ⟨rfl, ⟨nd, rfl⟩⟩; (try first | exact ⟨rfl, _, World.drewN_drewN _ _ _⟩ | exact ⟨rfl, _, Eq.trans (World.drewN_drewN _ _ _) (congrArg (World.drewN _) (Nat.add_assoc _ _ _))⟩); have p218 : 0 ≤ (x13_2 : Int) := of_decide_eq_true (by first | (with_reducible assumption) | assumption); have q218 : x13_2 < (l0.length : Int) := of_decide_eq_true (by first | (with_reducible assumption) | assumption); obtain ⟨ad218, e218, hx218_0, hx218_1, hx218_2, hx218_3, hx218_4, hx218_5, hx218_6, hx218_7, hx218_8, hx218_9⟩ := at_T34 HR0.out x13_2 p218 q218; obtain rfl : ad212 = ad218 := (by injection e218); replace p218 := eq_true p218; replace q218 := eq_true q218)))
             go_roundg k2
             case measure => have := HJ4.out; have := HK2.out; omega
             case rel => exact ⟨(wrap64 (x9_2 + ((rd_T34 l0 x13_2).f1))), (wrap64 (x10_2 + 1)), (wrap64 (x11_2 + ((rd_T34 l0 x13_2).f1))), (wrap64 (x12_2 + 1)), (wrap64 (x13_2 + 1)), (by first | rfl | (simp; done) | (simp [*]; done) | exact congrArg (Value.int _) (by unfold wrap64; omega)), (by first | rfl | (simp; done) | (simp [*]; done) | exact congrArg (Value.int _) (by unfold wrap64; omega)), (by first | rfl | (simp; done) | (simp [*]; done) | exact congrArg (Value.int _) (by unfold wrap64; omega)), (by first | rfl | (simp; done) | (simp [*]; done) | exact congrArg (Value.int _) (by unfold wrap64; omega)), (by first | rfl | (simp; done) | (simp [*]; done) | exact congrArg (Value.int _) (by unfold wrap64; omega)), H', ⟨by have := HJ4.out; have := HK2.out; omega⟩, by repeat (first | exact Drawn0.refl _ | apply Drawn0.step)⟩
            ·rw [if_neg c16] at H
             have c16b0 : (t215 == t217) = false := beq_eq_false_iff_ne.mpr c16
             have c16b1 : (t215 != t217) = true := bne_iff_ne.mpr c16
             have H' := Aside0.mk H
             clear H
             have p212 : 0 ≤ (x13_2 : Int) := of_decide_eq_true (by first | (with_reducible assumption) | assumption)
             have q212 : x13_2 < (l0.length : Int) := of_decide_eq_true (by first | (with_reducible assumption) | assumption)
             obtain ⟨ad212, e212, hx212_0, hx212_1, hx212_2, hx212_3, hx212_4, hx212_5, hx212_6, hx212_7, hx212_8, hx212_9⟩ := at_T34 HR0.out x13_2 p212 q212
             cases e212
             replace p212 := eq_true p212
             replace q212 := eq_true q212
             have p213 : 0 ≤ (x13_2 : Int) := of_decide_eq_true (by first | (with_reducible assumption) | assumption)
             have q213 : x13_2 < (l0.length : Int) := of_decide_eq_true (by first | (with_reducible assumption) | assumption)
             obtain ⟨ad213, e213, hx213_0, hx213_1, hx213_2, hx213_3, hx213_4, hx213_5, hx213_6, hx213_7, hx213_8, hx213_9⟩ := at_T34 HR0.out x13_2 p213 q213
             obtain rfl : ad212 = ad213 := (by injection e213)
             replace p213 := eq_true p213
             replace q213 := eq_true q213
             have p214 : 0 ≤ (x13_2 : Int) := of_decide_eq_true (by first | (with_reducible assumption) | assumption)
             have q214 : x13_2 < (l0.length : Int) := of_decide_eq_true (by first | (with_reducible assumption) | assumption)
             obtain ⟨ad214, e214, hx214_0, hx214_1, hx214_2, hx214_3, hx214_4, hx214_5, hx214_6, hx214_7, hx214_8, hx214_9⟩ := at_T34 HR0.out x13_2 p214 q214
             obtain rfl : ad212 = ad214 := (by injection e214)
             replace p214 := eq_true p214
             replace q214 := eq_true q214
             go_wp2_with (first | (go_at_call 14; (with_reducible refine (flagstoneref39_Class.calls k2 ((rd_T34 l0 x13_2).f3) t215 _ A12.out).mono ?_); rintro e w' ⟨rfl, ⟨nd, rfl⟩⟩; (try first | exact ⟨rfl, _, World.drewN_drewN _ _ _⟩ | exact ⟨rfl, _, Eq.trans (World.drewN_drewN _ _ _) (congrArg (World.drewN _) (Nat.add_assoc _ _ _))⟩); have p216 : 0 ≤ (a1 : Int) := of_decide_eq_true (by first | (with_reducible assumption) | assumption); have q216 : a1 < (l0.length : Int) := of_decide_eq_true (by first | (with_reducible assumption) | assumption); obtain ⟨ad216, e216, hx216_0, hx216_1, hx216_2, hx216_3, hx216_4, hx216_5, hx216_6, hx216_7, hx216_8, hx216_9⟩ := at_T34 HR0.out a1 p216 q216; obtain rfl : ad212 = ad216 := (by injection e216); replace p216 := eq_true p216; replace q216 := eq_true q216) | (go_at_call 14; (with_reducible refine (flagstoneref39_Class.calls k2 ((rd_T34 l0 a1).f3) t217 _ A15.out).mono ?_); rintro e w' ⟨rfl, ⟨nd, rfl⟩⟩; (try first | exact ⟨rfl, _, World.drewN_drewN _ _ _⟩ | exact ⟨rfl, _, Eq.trans (World.drewN_drewN _ _ _) (congrArg (World.drewN _) (Nat.add_assoc _ _ _))⟩)))
             repeat (go_quiet (first | (go_at_call 14; (with_reducible refine (flagstoneref39_Class.calls k2 ((rd_T34 l0 x13_2).f3) t215 _ A12.out).mono ?_); rintro e w' ⟨rfl, ⟨nd, rfl⟩⟩; (try first | exact ⟨rfl, _, World.drewN_drewN _ _ _⟩ | exact ⟨rfl, _, Eq.trans (World.drewN_drewN _ _ _) (congrArg (World.drewN _) (Nat.add_assoc _ _ _))⟩); have p216 : 0 ≤ (a1 : Int) := of_decide_eq_true (by first | (with_reducible assumption) | assumption); have q216 : a1 < (l0.length : Int) := of_decide_eq_true (by first | (with_reducible assumption) | assumption); obtain ⟨ad216, e216, hx216_0, hx216_1, hx216_2, hx216_3, hx216_4, hx216_5, hx216_6, hx216_7, hx216_8, hx216_9⟩ := at_T34 HR0.out a1 p216 q216; obtain rfl : ad212 = ad216 := (by injection e216); replace p216 := eq_true p216; replace q216 := eq_true q216) | (go_at_call 14; (with_reducible refine (flagstoneref39_Class.calls k2 ((rd_T34 l0 a1).f3) t217 _ A15.out).mono ?_); rintro e w' ⟨rfl, ⟨nd, rfl⟩⟩; (try first | exact ⟨rfl, _, World.drewN_drewN _ _ _⟩ | exact ⟨rfl, _, Eq.trans (World.drewN_drewN _ _ _) (congrArg (World.drewN _) (Nat.add_assoc _ _ _))⟩))); try go_wp2_with (first | (go_at_call 14; (with_reducible refine (flagstoneref39_Class.calls k2 ((rd_T34 l0 x13_2).f3) t215 _ A12.out).mono ?_); rintro e w' ⟨rfl, ⟨nd, rfl⟩⟩; (try first | exact ⟨rfl, _, World.drewN_drewN _ _ _⟩ | exact ⟨rfl, _, Eq.trans (World.drewN_drewN _ _ _) (congrArg (World.drewN _) (Nat.add_assoc _ _ _))⟩); have p216 : 0 ≤ (a1 : Int) := of_decide_eq_true (by first | (with_reducible assumption) | assumption); have q216 : a1 < (l0.length : Int) := of_decide_eq_true (by first | (with_reducible assumption) | assumption); obtain ⟨ad216, e216, hx216_0, hx216_1, hx216_2, hx216_3, hx216_4, hx216_5, hx216_6, hx216_7, hx216_8, hx216_9⟩ := at_T34 HR0.out a1 p216 q216; obtain rfl : ad212 = ad216 := (by injection e216); replace p216 := eq_true p216; replace q216 := eq_true q216) | (go_at_call 14; (with_reducible refine (flagstoneref39_Class.calls k2 ((rd_T34 l0 a1).f3) t217 _ A15.out).mono ?_); rintro e w' ⟨rfl, ⟨nd, rfl⟩⟩; (try first | exact ⟨rfl, _, World.drewN_drewN _ _ _⟩ | exact ⟨rfl, _, Eq.trans (World.drewN_drewN _ _ _) (congrArg (World.drewN _) (Nat.add_assoc _ _ _))⟩))))
             go_roundg k2
             case measure => have := HJ4.out; have := HK2.out; omega
             case rel => exact ⟨(wrap64 (x9_2 + ((rd_T34 l0 x13_2).f1))), (wrap64 (x10_2 + 1)), (x11_2), (x12_2), (wrap64 (x13_2 + 1)), (by first | rfl | (simp; done) | (simp [*]; done) | exact congrArg (Value.int _) (by unfold wrap64; omega)), (by first | rfl | (simp; done) | (simp [*]; done) | exact congrArg (Value.int _) (by unfold wrap64; omega)), (by first | rfl | (simp; done) | (simp [*]; done) | exact congrArg (Value.int _) (by unfold wrap64; omega)), (by first | rfl | (simp; done) | (simp [*]; done) | exact congrArg (Value.int _) (by unfold wrap64; omega)), (by first | rfl | (simp; done) | (simp [*]; done) | exact congrArg (Value.int _) (by unfold wrap64; omega)), H', ⟨by have := HJ4.out; have := HK2.out; omega⟩, by repeat (first | exact Drawn0.refl _ | apply Drawn0.step)⟩
           ·rw [if_neg c14] at H
            exact absurd H (by simp)
          ·rw [if_neg c13] at H
           exact absurd H (by simp)
         ·rw [if_neg c11] at H
          have c11b0 : (((rd_T34 l0 x13_2).f0.f4) == a2) = false := beq_eq_false_iff_ne.mpr c11
          have c11b1 : (((rd_T34 l0 x13_2).f0.f4) != a2) = true := bne_iff_ne.mpr c11
          have H' := Aside0.mk H
          clear H
          have p212 : 0 ≤ (x13_2 : Int) := of_decide_eq_true (by first | (with_reducible assumption) | assumption)
          have q212 : x13_2 < (l0.length : Int) := of_decide_eq_true (by first | (with_reducible assumption) | assumption)
          obtain ⟨ad212, e212, hx212_0, hx212_1, hx212_2, hx212_3, hx212_4, hx212_5, hx212_6, hx212_7, hx212_8, hx212_9⟩ := at_T34 HR0.out x13_2 p212 q212
          cases e212
          replace p212 := eq_true p212
          replace q212 := eq_true q212
          go_wp2
          repeat (go_quiet (fail); try go_wp2)
          go_roundg k2
          case measure => have := HJ4.out; have := HK2.out; omega
          case rel => exact ⟨(x9_2), (x10_2), (x11_2), (x12_2), (wrap64 (x13_2 + 1)), (by first | rfl | (simp; done) | (simp [*]; done) | exact congrArg (Value.int _) (by unfold wrap64; omega)), (by first | rfl | (simp; done) | (simp [*]; done) | exact congrArg (Value.int _) (by unfold wrap64; omega)), (by first | rfl | (simp; done) | (simp [*]; done) | exact congrArg (Value.int _) (by unfold wrap64; omega)), (by first | rfl | (simp; done) | (simp [*]; done) | exact congrArg (Value.int _) (by unfold wrap64; omega)), (by first | rfl | (simp; done) | (simp [*]; done) | exact congrArg (Value.int _) (by unfold wrap64; omega)), H', ⟨by have := HJ4.out; have := HK2.out; omega⟩, by repeat (first | exact Drawn0.refl _ | apply Drawn0.step)⟩
        ·rw [if_neg c10] at H
         exact absurd H (by simp)
       ·rw [if_neg c9] at H
        exact absurd H (by simp)
      ·rw [if_neg c8] at H
       have c8b0 : decide (x13_2 < a1) = false := decide_eq_false c8
       clear c8
       by_cases c17 : x12_2 > 0
       ·rw [if_pos c17] at H
        have c17b0 : decide (0 < x12_2) = true := decide_eq_true c17
        clear c17
        replace H := Option.bind_eq_some_iff.mp H
        obtain ⟨t219, A180, H⟩ := H
        replace H : (some t219) = some r := H
        have A18 := Aside0.mk A180
        clear A180
        obtain rfl := Option.some.inj H
        go_wp2_with (first | (go_at_call 30; (with_reducible refine (flagstoneref39_floor.calls x11_2 x12_2 t219 _ A18.out).mono ?_); rintro e w' ⟨rfl, ⟨nd, rfl⟩⟩; (try first | exact ⟨rfl, _, World.drewN_drewN _ _ _⟩ | exact ⟨rfl, _, Eq.trans (World.drewN_drewN _ _ _) (congrArg (World.drewN _) (Nat.add_assoc _ _ _))⟩)))
        repeat (go_quiet (first | (go_at_call 30; (with_reducible refine (flagstoneref39_floor.calls x11_2 x12_2 t219 _ A18.out).mono ?_); rintro e w' ⟨rfl, ⟨nd, rfl⟩⟩; (try first | exact ⟨rfl, _, World.drewN_drewN _ _ _⟩ | exact ⟨rfl, _, Eq.trans (World.drewN_drewN _ _ _) (congrArg (World.drewN _) (Nat.add_assoc _ _ _))⟩))); try go_wp2_with (first | (go_at_call 30; (with_reducible refine (flagstoneref39_floor.calls x11_2 x12_2 t219 _ A18.out).mono ?_); rintro e w' ⟨rfl, ⟨nd, rfl⟩⟩; (try first | exact ⟨rfl, _, World.drewN_drewN _ _ _⟩ | exact ⟨rfl, _, Eq.trans (World.drewN_drewN _ _ _) (congrArg (World.drewN _) (Nat.add_assoc _ _ _))⟩))))
        go_ret
        exact ⟨by first | rfl | (simp; done) | (simp [*]; done), by repeat (first | exact Drawn0.refl _ | apply Drawn0.step)⟩
       ·rw [if_neg c17] at H
        have c17b0 : decide (0 < x12_2) = false := decide_eq_false c17
        clear c17
        by_cases c19 : x10_2 > 0
        ·rw [if_pos c19] at H
         have c19b0 : decide (0 < x10_2) = true := decide_eq_true c19
         clear c19
         replace H := Option.bind_eq_some_iff.mp H
         obtain ⟨t220, A200, H⟩ := H
         replace H : (some t220) = some r := H
         have A20 := Aside0.mk A200
         clear A200
         obtain rfl := Option.some.inj H
         go_wp2_with (first | (go_at_call 30; (with_reducible refine (flagstoneref39_floor.calls x9_2 x10_2 t220 _ A20.out).mono ?_); rintro e w' ⟨rfl, ⟨nd, rfl⟩⟩; (try first | exact ⟨rfl, _, World.drewN_drewN _ _ _⟩ | exact ⟨rfl, _, Eq.trans (World.drewN_drewN _ _ _) (congrArg (World.drewN _) (Nat.add_assoc _ _ _))⟩)))
         repeat (go_quiet (first | (go_at_call 30; (with_reducible refine (flagstoneref39_floor.calls x9_2 x10_2 t220 _ A20.out).mono ?_); rintro e w' ⟨rfl, ⟨nd, rfl⟩⟩; (try first | exact ⟨rfl, _, World.drewN_drewN _ _ _⟩ | exact ⟨rfl, _, Eq.trans (World.drewN_drewN _ _ _) (congrArg (World.drewN _) (Nat.add_assoc _ _ _))⟩))); try go_wp2_with (first | (go_at_call 30; (with_reducible refine (flagstoneref39_floor.calls x9_2 x10_2 t220 _ A20.out).mono ?_); rintro e w' ⟨rfl, ⟨nd, rfl⟩⟩; (try first | exact ⟨rfl, _, World.drewN_drewN _ _ _⟩ | exact ⟨rfl, _, Eq.trans (World.drewN_drewN _ _ _) (congrArg (World.drewN _) (Nat.add_assoc _ _ _))⟩))))
         go_ret
         exact ⟨by first | rfl | (simp; done) | (simp [*]; done), by repeat (first | exact Drawn0.refl _ | apply Drawn0.step)⟩
        ·rw [if_neg c19] at H
         have c19b0 : decide (0 < x10_2) = false := decide_eq_false c19
         clear c19
         replace H := Option.bind_eq_some_iff.mp H
         obtain ⟨t221, A210, H⟩ := H
         replace H : (some t221) = some r := H
         have A21 := Aside0.mk A210
         clear A210
         obtain rfl := Option.some.inj H
         go_wp2_with (first | (go_at_call 30; (with_reducible refine (flagstoneref39_floor.calls a3 2 t221 _ A21.out).mono ?_); rintro e w' ⟨rfl, ⟨nd, rfl⟩⟩; (try first | exact ⟨rfl, _, World.drewN_drewN _ _ _⟩ | exact ⟨rfl, _, Eq.trans (World.drewN_drewN _ _ _) (congrArg (World.drewN _) (Nat.add_assoc _ _ _))⟩)))
         repeat (go_quiet (first | (go_at_call 30; (with_reducible refine (flagstoneref39_floor.calls a3 2 t221 _ A21.out).mono ?_); rintro e w' ⟨rfl, ⟨nd, rfl⟩⟩; (try first | exact ⟨rfl, _, World.drewN_drewN _ _ _⟩ | exact ⟨rfl, _, Eq.trans (World.drewN_drewN _ _ _) (congrArg (World.drewN _) (Nat.add_assoc _ _ _))⟩))); try go_wp2_with (first | (go_at_call 30; (with_reducible refine (flagstoneref39_floor.calls a3 2 t221 _ A21.out).mono ?_); rintro e w' ⟨rfl, ⟨nd, rfl⟩⟩; (try first | exact ⟨rfl, _, World.drewN_drewN _ _ _⟩ | exact ⟨rfl, _, Eq.trans (World.drewN_drewN _ _ _) (congrArg (World.drewN _) (Nat.add_assoc _ _ _))⟩))))
         go_ret
         exact ⟨by first | rfl | (simp; done) | (simp [*]; done), by repeat (first | exact Drawn0.refl _ | apply Drawn0.step)⟩

end Go.Proofs.Ytdmhdbebjjhopaa.PA
