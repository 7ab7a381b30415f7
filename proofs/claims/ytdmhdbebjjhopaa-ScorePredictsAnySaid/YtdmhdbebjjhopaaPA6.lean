-- Written by a program of this seat's session (wip/tools/ownprint.py, over the kit's printer) out of the translation: functions and their contracts.
import Derived.Test.YtdmhdbebjjhopaaPA0
import Derived.Test.YtdmhdbebjjhopaaPA1
import Derived.Test.YtdmhdbebjjhopaaPA5
namespace Go.Proofs.Ytdmhdbebjjhopaa.PA
open Go.RowKit Go.Proofs.YtdmhdbebjjhopaaW.PrintWords Go.Proofs.YtdmhdbebjjhopaaW.PrintLast Go.Proofs.YtdmhdbebjjhopaaW.PrintMore
attribute [local go_sem] max2_int min2_int max_two min_two max_three min_three max_four min_four   -- for this text's walks alone
set_option linter.unusedVariables false
set_option linter.unusedSimpArgs false

attribute [local go_sem high] eqA37
/-! ### flagstonelaw39_awake: function 11 -/
def flagstonelaw39_awake.f (k : Nat)  : Option (Bool) := (some (([(⟨(⟨(⟨#[]⟩ : ByteArray), (⟨#[]⟩ : ByteArray), 0, 0, 2, 0⟩ : S32), 4, 0, 0, false⟩ : S34)] : List (S34)) : List (S34))).bind fun y138 => ((score_Of.f k y138 0 0 1 1 10 false).bind fun bt141 => (if 0 < (y138.length : Int) then ((score_Of.f k (y138.set (0 : Int).toNat (⟨(⟨(rd_T34 y138 0).f0.f0, (rd_T34 y138 0).f0.f1, (rd_T34 y138 0).f0.f2, (rd_T34 y138 0).f0.f3, 1, (rd_T34 y138 0).f0.f5⟩ : S32), (rd_T34 y138 0).f1, (rd_T34 y138 0).f2, (rd_T34 y138 0).f3, (rd_T34 y138 0).f4⟩ : S34)) 0 0 1 1 10 false).bind fun bt147 => (if bt141.2.2.2 = true then (if bt147.2.2.2 = true then (if (bt141.1 == 8 && (bt141.2.1 == 10 && (bt141.2.2.1 == 40))) = true then (some (bt147.1 == (-8) && (bt147.2.1 == 10 && (bt147.2.2.1 == 40)))) else (some false)) else (some false)) else (some false))) else (none)))
theorem flagstonelaw39_awake.mono : ∀ k, LeO (flagstonelaw39_awake.f k ) (flagstonelaw39_awake.f (k + 1) ) := by
 intro  k
 unfold flagstonelaw39_awake.f
 repeat' first
   | (with_reducible exact score_Of.mono _ _ _ _ _ _ _ _)
   | (with_reducible exact LeO.refl _)
   | (with_reducible exact LeO.none _)
   | (with_reducible refine LeO.ite ?_ ?_)
   | (with_reducible refine LeO.bind ?_ (fun _ => ?_))
   | exact score_Of.mono _ _ _ _ _ _ _ _
   | exact LeO.none _
   | refine LeO.ite ?_ ?_
   | refine LeO.bind ?_ (fun _ => ?_)
set_option maxHeartbeats 8000000 in
set_option maxRecDepth 100000 in
theorem flagstonelaw39_awake.calls (k : Nat)  (r : Bool) (w : World) (h : flagstonelaw39_awake.f k  = some r) :
  Calls Try.prog 11 #[] w fun e w' => e = .returned (.bool r) ∧ Below w.heap.size w w' := by
 have hu32 := Try.underlying32
 have hu34 := Try.underlying34
 have hu42 := Try.underlying42
 have hu37 := Try.underlying37
 have HB := Aside0.mk (Below.refl w.heap.size w)
 have H : ((some (([(⟨(⟨(⟨#[]⟩ : ByteArray), (⟨#[]⟩ : ByteArray), 0, 0, 2, 0⟩ : S32), 4, 0, 0, false⟩ : S34)] : List (S34)) : List (S34))).bind fun y138 => ((score_Of.f k y138 0 0 1 1 10 false).bind fun bt141 => (if 0 < (y138.length : Int) then ((score_Of.f k (y138.set (0 : Int).toNat (⟨(⟨(rd_T34 y138 0).f0.f0, (rd_T34 y138 0).f0.f1, (rd_T34 y138 0).f0.f2, (rd_T34 y138 0).f0.f3, 1, (rd_T34 y138 0).f0.f5⟩ : S32), (rd_T34 y138 0).f1, (rd_T34 y138 0).f2, (rd_T34 y138 0).f3, (rd_T34 y138 0).f4⟩ : S34)) 0 0 1 1 10 false).bind fun bt147 => (if bt141.2.2.2 = true then (if bt147.2.2.2 = true then (if (bt141.1 == 8 && (bt141.2.1 == 10 && (bt141.2.2.1 == 40))) = true then (some (bt147.1 == (-8) && (bt147.2.1 == 10 && (bt147.2.2.1 == 40)))) else (some false)) else (some false)) else (some false))) else (none)))) = some r := h
 clear h
 obtain ⟨y138, hy138⟩ : ∃ y_ : List (S34), y_ = (([(⟨(⟨(⟨#[]⟩ : ByteArray), (⟨#[]⟩ : ByteArray), 0, 0, 2, 0⟩ : S32), 4, 0, 0, false⟩ : S34)] : List (S34))) := ⟨_, rfl⟩
 replace H : ((score_Of.f k y138 0 0 1 1 10 false).bind fun bt141 => (if 0 < (y138.length : Int) then ((score_Of.f k (y138.set (0 : Int).toNat (⟨(⟨(rd_T34 y138 0).f0.f0, (rd_T34 y138 0).f0.f1, (rd_T34 y138 0).f0.f2, (rd_T34 y138 0).f0.f3, 1, (rd_T34 y138 0).f0.f5⟩ : S32), (rd_T34 y138 0).f1, (rd_T34 y138 0).f2, (rd_T34 y138 0).f3, (rd_T34 y138 0).f4⟩ : S34)) 0 0 1 1 10 false).bind fun bt147 => (if bt141.2.2.2 = true then (if bt147.2.2.2 = true then (if (bt141.1 == 8 && (bt141.2.1 == 10 && (bt141.2.2.1 == 40))) = true then (some (bt147.1 == (-8) && (bt147.2.1 == 10 && (bt147.2.2.1 == 40)))) else (some false)) else (some false)) else (some false))) else (none))) = some r := by first | (rw [hy138]; with_reducible exact H) | (have H2_ := (Option.bind_some _ _).symm.trans H; rw [hy138]; with_reducible exact H2_) | (have H2_ := (Option.bind_some _ _).symm.trans H; with_reducible exact H2_) | with_reducible exact H | (rw [hy138]; exact H) | exact H
 have Ny138 := Aside0.mk hy138
 clear hy138
 replace H := Option.bind_eq_some_iff.mp H
 obtain ⟨⟨t141, t142, t143, t144⟩, A10, H⟩ := H
 replace H : (if 0 < (y138.length : Int) then ((score_Of.f k (y138.set (0 : Int).toNat (⟨(⟨(rd_T34 y138 0).f0.f0, (rd_T34 y138 0).f0.f1, (rd_T34 y138 0).f0.f2, (rd_T34 y138 0).f0.f3, 1, (rd_T34 y138 0).f0.f5⟩ : S32), (rd_T34 y138 0).f1, (rd_T34 y138 0).f2, (rd_T34 y138 0).f3, (rd_T34 y138 0).f4⟩ : S34)) 0 0 1 1 10 false).bind fun bt147 => (if t144 = true then (if bt147.2.2.2 = true then (if (t141 == 8 && (t142 == 10 && (t143 == 40))) = true then (some (bt147.1 == (-8) && (bt147.2.1 == 10 && (bt147.2.2.1 == 40)))) else (some false)) else (some false)) else (some false))) else (none)) = some r := H
 have A1 := Aside0.mk A10
 clear A10
 by_cases c2 : 0 < (y138.length : Int)
 ·rw [if_pos c2] at H
  have c2b0 : decide (0 < (y138.length : Int)) = true := decide_eq_true c2
  have c2b1 : decide (0 < y138.length) = true := decide_eq_true (by omega)
  clear c2
  obtain ⟨y146, hy146⟩ : ∃ y_ : List (S34), y_ = (y138.set (0 : Int).toNat (⟨(⟨(rd_T34 y138 0).f0.f0, (rd_T34 y138 0).f0.f1, (rd_T34 y138 0).f0.f2, (rd_T34 y138 0).f0.f3, 1, (rd_T34 y138 0).f0.f5⟩ : S32), (rd_T34 y138 0).f1, (rd_T34 y138 0).f2, (rd_T34 y138 0).f3, (rd_T34 y138 0).f4⟩ : S34)) := ⟨_, rfl⟩
  replace H : ((score_Of.f k y146 0 0 1 1 10 false).bind fun bt147 => (if t144 = true then (if bt147.2.2.2 = true then (if (t141 == 8 && (t142 == 10 && (t143 == 40))) = true then (some (bt147.1 == (-8) && (bt147.2.1 == 10 && (bt147.2.2.1 == 40)))) else (some false)) else (some false)) else (some false))) = some r := by first | (rw [hy146]; with_reducible exact H) | (have H2_ := (Option.bind_some _ _).symm.trans H; rw [hy146]; with_reducible exact H2_) | (have H2_ := (Option.bind_some _ _).symm.trans H; with_reducible exact H2_) | with_reducible exact H | (rw [hy146]; exact H) | exact H
  have Ny146 := Aside0.mk hy146
  clear hy146
  replace H := Option.bind_eq_some_iff.mp H
  obtain ⟨⟨t147, t148, t149, t150⟩, A40, H⟩ := H
  replace H : (if t144 = true then (if t150 = true then (if (t141 == 8 && (t142 == 10 && (t143 == 40))) = true then (some (t147 == (-8) && (t148 == 10 && (t149 == 40)))) else (some false)) else (some false)) else (some false)) = some r := H
  have A4 := Aside0.mk A40
  clear A40
  by_cases c5 : t144 = true
  ·subst c5
   have H1 : (if t150 = true then (if (t141 == 8 && (t142 == 10 && (t143 == 40))) = true then (some (t147 == (-8) && (t148 == 10 && (t149 == 40)))) else (some false)) else (some false)) = some r := by rw [if_pos rfl] at H; exact H
   clear H
   have H := H1
   clear H1
   by_cases c6 : t150 = true
   ·subst c6
    have H1 : (if (t141 == 8 && (t142 == 10 && (t143 == 40))) = true then (some (t147 == (-8) && (t148 == 10 && (t149 == 40)))) else (some false)) = some r := by rw [if_pos rfl] at H; exact H
    clear H
    have H := H1
    clear H1
    by_cases c7 : (t141 == 8 && (t142 == 10 && (t143 == 40))) = true
    ·rw [if_pos c7] at H
     have c7b0 : (t141 == 8 && (t142 == 10 && (t143 == 40))) = true := c7
     (try (have c7b1 : decide (t141 = 8 && (t142 == 10 && (t143 == 40))) = true := by simpa using c7))
     (try (have c7b2 : (t141 == 8 && (t142 == 10 && (t143 == 40))) = true := by simpa using c7))
     clear c7
     obtain rfl := Option.some.inj H
     go_enter Try.func11, Try.ntmps11
     go_wp2_with (first | ((with_reducible refine gate_dst (N := 8) rfl ?_); refine Kd.R_lit k34 _ 34 ?hg (N := 8) ?hd (xs := ([(⟨(⟨(⟨#[]⟩ : ByteArray), (⟨#[]⟩ : ByteArray), 0, 0, 2, 0⟩ : S32), 4, 0, 0, false⟩ : S34)] : List (S34))) (inner := [.string (⟨#[]⟩ : ByteArray), .string (⟨#[]⟩ : ByteArray), .int .i64 0, .int .i64 0, .int .i64 2, .int .i64 0, .int .i64 4, .int .i64 0, .int .i64 0, .bool false]) (ok := fun _ => True) (okp := fun _ => True) ?hr ?hp (fun _ hk => hk) trivial (Below.refl _ _) (Nat.le_refl _) (by simp) ?_; (case hd => rfl); (case hg => rfl); (case hr => first | (go_simp; done) | (go_simp; rfl)); (case hp => exact (Reps.c10 (show Kd.M k34 _ _ _ (⟨(⟨(⟨#[]⟩ : ByteArray), (⟨#[]⟩ : ByteArray), 0, 0, 2, 0⟩ : S32), 4, 0, 0, false⟩ : S34) [.string (⟨#[]⟩ : ByteArray), .string (⟨#[]⟩ : ByteArray), .int .i64 0, .int .i64 0, .int .i64 2, .int .i64 0, .int .i64 4, .int .i64 0, .int .i64 0, .bool false] from (k34_mkM _ _ _ (⟨(⟨(⟨#[]⟩ : ByteArray), (⟨#[]⟩ : ByteArray), 0, 0, 2, 0⟩ : S32), 4, 0, 0, false⟩ : S34) )) (Reps.none _ _))); intro v139 w8 ho9 hb hg_ hnew_; clear hg_ hnew_; (first | rw [← Ny138.out] at ho9 | (simp only [Int.reduceToNat] at ho9; rw [← Ny138.out] at ho9)); have n0_ := Aside0.mk (Kd.R_lower ho9 (below_size (by repeat (first | (with_reducible first | exact HB.out | apply below_alloc | apply pw_below_drewN | apply below_drew1) | exact HB.out)))); have n1_ := Aside0.mk (below_step (by repeat (first | (with_reducible first | exact HB.out | apply below_alloc | apply pw_below_drewN | apply below_drew1) | exact HB.out)) hb); clear HB; have HO140 := n0_; have HB := n1_; clear n0_ n1_; clear hb ho9; obtain ⟨Ao10, co10, eo10⟩ := Kd.R_slice HO140.out; subst eo10) | ((with_reducible refine gate_callee (f := 19) rfl ?_); refine goesL_ (some 12) rfl rfl Try.func19 (by kernel_rfl) rfl #[.slice Ao10 y138.length co10, .int .i64 0, .agg #[.int .i64 0, .int .i64 1, .int .i64 1], .int .i64 10, .bool false] rfl (by (try simp only [List.map_toArray, List.map_cons, List.map_nil]); first | done | rfl | (simp only [List.length_drop, List.length_take]; rfl)) ?_; (with_reducible refine (score_Of.calls k _ _ y138 0 0 1 1 10 false t141 t142 t143 true _ ?side1 ?side2 A1.out).mono ?_); (case side1 => repeat (first | exact (Kd.R_reads' HO140.out).2.2 | (with_reducible refine Kd.C_alloc ?_ _) | (with_reducible refine Kd.C_drewN ?_ _) | (with_reducible refine Kd.C_drew ?_))); (case side2 => exact (Kd.R_reads' HO140.out).2.1); rintro e w11 ⟨rfl, hb⟩; refine ⟨_, rfl, ?_⟩; have n0_ := Aside0.mk (Kd.R_below (by (with_reducible repeat (first | apply Kd.R_alloc | apply Kd.R_drewN | apply Kd.R_drew)); exact HO140.out) hb); have n1_ := Aside0.mk (below_step (by repeat (first | (with_reducible first | exact HB.out | apply below_alloc | apply pw_below_drewN | apply below_drew1) | exact HB.out)) hb); clear HO140; clear HB; have HO140 := n0_; have HB := n1_; clear n0_ n1_; (try clear hb); (try clear hb2); (try clear hk); (try clear hi)) | ((with_reducible refine gate_dst (N := 2) rfl ?_); refine box_event ?hg (N := 2) ?hd (cs := #[.int .i64 0, .int .i64 0, .int .i64 0]) (t := 37) ?hr ?_; (case hd => rfl); (case hg => rfl); (case hr => first | (go_simp; done) | (go_simp; rfl)); intro gb145 hg w12 hbox hb; have n0_ := Aside0.mk (Kd.R_below (by (with_reducible repeat (first | apply Kd.R_alloc | apply Kd.R_drewN | apply Kd.R_drew)); exact HO140.out) hb); have n1_ := Aside0.mk (below_step (by repeat (first | (with_reducible first | exact HB.out | apply below_alloc | apply pw_below_drewN | apply below_drew1) | exact HB.out)) hb); have n2_ := Aside0.mk (hbox); have n3_ := Aside0.mk ((by rw [hg]; exact (below_size (by repeat (first | (with_reducible first | exact HB.out | apply below_alloc | apply pw_below_drewN | apply below_drew1) | exact HB.out))) : w.heap.size ≤ gb145)); have n4_ := Aside0.mk ((by rw [hg]; exact (below_size (by repeat (first | (with_reducible first | exact HB.out | apply below_alloc | apply pw_below_drewN | apply below_drew1) | exact HB.out))) : w.heap.size ≤ gb145)); clear HO140; clear HB; have HO140 := n0_; have HB := n1_; have BK145 := n2_; have GW145 := n3_; have GE145 := n4_; clear n0_ n1_ n2_ n3_ n4_; clear hb hbox hg; have hcz13_0 : w12.cell? ⟨gb145, 0, none⟩ = some (.int .i64 0) := (blk_cell BK145.out 0).trans rfl; have hcz13_1 : w12.cell? ⟨gb145, 1, none⟩ = some (.int .i64 0) := (blk_cell BK145.out 1).trans rfl; have hcz13_2 : w12.cell? ⟨gb145, 2, none⟩ = some (.int .i64 0) := (blk_cell BK145.out 2).trans rfl; have hfz13_0 := blk_frozen BK145.out 0; have hfz13_1 := blk_frozen BK145.out 1; have hfz13_2 := blk_frozen BK145.out 2) | ((with_reducible refine gate_store (t := 37) (p := 2) rfl ?_); refine store_event (t := 37) (p := 2) (v := ?vo_w14) (w1 := (((w12.setCell ⟨gb145, 0, none⟩ (.int .i64 t141)).setCell ⟨gb145, 1, none⟩ (.int .i64 t142)).setCell ⟨gb145, 2, none⟩ (.int .i64 t143))) ?hg ?ho ?hn ?hr ?_; (case ho => rfl); (case hg => rfl); (case hn => rfl); (case hr => first | (go_simp; done) | (go_simp; rfl)); intro w14 hw; have n0_ : Aside0 (Kd.R k34 34 w14 w.heap.size (fun _ => True) (.slice Ao10 y138.length co10) y138) := ⟨(by rw [hw]; exact (by (with_reducible repeat (first | apply Kd.R_alloc | apply Kd.R_drewN | apply Kd.R_drew)); exact Kd.R_mono (Kd.R_far (p := ⟨gb145, 2, none⟩) (Kd.R_far (p := ⟨gb145, 1, none⟩) (Kd.R_far (p := ⟨gb145, 0, none⟩) (Kd.R_types HO140.out BK145.out (by decide)) (fun _ hk => hk.2) (.int .i64 t141)) (fun _ hk => hk.2) (.int .i64 t142)) (fun _ hk => hk.2) (.int .i64 t143)) (fun _ hk => trivial)))⟩; have n1_ : Aside0 (w14.heap[gb145]? = some (.cells #[.int .i64 t141, .int .i64 t142, .int .i64 t143] 37 (0, 0))) := ⟨(by rw [hw]; exact (by (with_reducible repeat (first | refine blk_drewN ?_ _ | refine blk_drew ?_ | refine blk_alloc ?_ _)); refine blk_put (cs := #[.int .i64 t141, .int .i64 t142, .int .i64 0]) ?_ 2 _ rfl; (with_reducible repeat (first | refine blk_drewN ?_ _ | refine blk_drew ?_ | refine blk_alloc ?_ _)); refine blk_put (cs := #[.int .i64 t141, .int .i64 0, .int .i64 0]) ?_ 1 _ rfl; (with_reducible repeat (first | refine blk_drewN ?_ _ | refine blk_drew ?_ | refine blk_alloc ?_ _)); refine blk_put (cs := #[.int .i64 0, .int .i64 0, .int .i64 0]) ?_ 0 _ rfl; (with_reducible repeat (first | refine blk_drewN ?_ _ | refine blk_drew ?_ | refine blk_alloc ?_ _)); exact BK145.out))⟩; have n2_ : Aside0 (Below w.heap.size w w14) := ⟨(by rw [hw]; exact (by repeat (first | (with_reducible first | exact HB.out | apply below_alloc | apply pw_below_drewN | apply below_drew1 | refine below_set ?_ GE145.out) | exact HB.out)))⟩; clear hw; clear HO140; clear BK145; clear HB; have HO140 := n0_; have BK145 := n1_; have HB := n2_; clear n0_ n1_ n2_; have p3 : 0 ≤ (0 : Int) := (by omega); have q3 : (0 : Int) < ((y138.length : Int) : Int) := of_decide_eq_true (by first | (with_reducible assumption) | assumption); have qi3 : (0 < y138.length) = True := eq_true (by omega); obtain ⟨go3, co3, eo3, gb3, gl3, cl3, HG3⟩ := Kd.R_form HO140.out (by omega); (first | cases eo3 | (injection eo3 with ea_ en_ ec_; (first | subst ea_ | (injection ea_ with ea_; subst ea_)); subst ec_; clear en_)); have GB3 := Aside0.mk gb3; have GG3 := Aside0.mk HG3; clear gb3 gl3 HG3; obtain ⟨ce3, hcl3, hM3, hcc3, hfr3⟩ := Kd.R_elem HO140.out z34 (0 : Int) p3 q3; obtain rfl := k34_openM hM3; have hx3_0 : w14.cell? ⟨go3, (0 : Int).toNat * 10, none⟩ = some (.string ((rd_T34 y138 0).f0.f0)) := hcc3 0 _ rfl; have hx3_1 : w14.cell? ⟨go3, (0 : Int).toNat * 10 + 1, none⟩ = some (.string ((rd_T34 y138 0).f0.f1)) := hcc3 1 _ rfl; have hx3_2 : w14.cell? ⟨go3, (0 : Int).toNat * 10 + 2, none⟩ = some (.int .i64 ((rd_T34 y138 0).f0.f2)) := hcc3 2 _ rfl; have hx3_3 : w14.cell? ⟨go3, (0 : Int).toNat * 10 + 3, none⟩ = some (.int .i64 ((rd_T34 y138 0).f0.f3)) := hcc3 3 _ rfl; have hx3_4 : w14.cell? ⟨go3, (0 : Int).toNat * 10 + 4, none⟩ = some (.int .i64 ((rd_T34 y138 0).f0.f4)) := hcc3 4 _ rfl; have hx3_5 : w14.cell? ⟨go3, (0 : Int).toNat * 10 + 5, none⟩ = some (.int .i64 ((rd_T34 y138 0).f0.f5)) := hcc3 5 _ rfl; have hx3_6 : w14.cell? ⟨go3, (0 : Int).toNat * 10 + 6, none⟩ = some (.int .i64 ((rd_T34 y138 0).f1)) := hcc3 6 _ rfl; have hx3_7 : w14.cell? ⟨go3, (0 : Int).toNat * 10 + 7, none⟩ = some (.int .i64 ((rd_T34 y138 0).f2)) := hcc3 7 _ rfl; have hx3_8 : w14.cell? ⟨go3, (0 : Int).toNat * 10 + 8, none⟩ = some (.int .i64 ((rd_T34 y138 0).f3)) := hcc3 8 _ rfl; have hx3_9 : w14.cell? ⟨go3, (0 : Int).toNat * 10 + 9, none⟩ = some (.bool ((rd_T34 y138 0).f4)) := hcc3 9 _ rfl; have hf3_0 : w14.frozen? ⟨go3, (0 : Int).toNat * 10, none⟩ = false := hfr3 0; have hf3_1 : w14.frozen? ⟨go3, (0 : Int).toNat * 10 + 1, none⟩ = false := hfr3 1; have hf3_2 : w14.frozen? ⟨go3, (0 : Int).toNat * 10 + 2, none⟩ = false := hfr3 2; have hf3_3 : w14.frozen? ⟨go3, (0 : Int).toNat * 10 + 3, none⟩ = false := hfr3 3; have hf3_4 : w14.frozen? ⟨go3, (0 : Int).toNat * 10 + 4, none⟩ = false := hfr3 4; have hf3_5 : w14.frozen? ⟨go3, (0 : Int).toNat * 10 + 5, none⟩ = false := hfr3 5; have hf3_6 : w14.frozen? ⟨go3, (0 : Int).toNat * 10 + 6, none⟩ = false := hfr3 6; have hf3_7 : w14.frozen? ⟨go3, (0 : Int).toNat * 10 + 7, none⟩ = false := hfr3 7; have hf3_8 : w14.frozen? ⟨go3, (0 : Int).toNat * 10 + 8, none⟩ = false := hfr3 8; have hf3_9 : w14.frozen? ⟨go3, (0 : Int).toNat * 10 + 9, none⟩ = false := hfr3 9; clear hcl3 hcc3 hfr3 hM3; (try rw [show ((0 : Int)).toNat = 0 from rfl] at hx3_0); (try simp only [Nat.reduceMul, Nat.zero_mul, Nat.zero_add, Nat.reduceAdd] at hx3_0); (try rw [show ((0 : Int)).toNat = 0 from rfl] at hf3_0); (try simp only [Nat.reduceMul, Nat.zero_mul, Nat.zero_add, Nat.reduceAdd] at hf3_0); (try rw [show ((0 : Int)).toNat = 0 from rfl] at hx3_1); (try simp only [Nat.reduceMul, Nat.zero_mul, Nat.zero_add, Nat.reduceAdd] at hx3_1); (try rw [show ((0 : Int)).toNat = 0 from rfl] at hf3_1); (try simp only [Nat.reduceMul, Nat.zero_mul, Nat.zero_add, Nat.reduceAdd] at hf3_1); (try rw [show ((0 : Int)).toNat = 0 from rfl] at hx3_2); (try simp only [Nat.reduceMul, Nat.zero_mul, Nat.zero_add, Nat.reduceAdd] at hx3_2); (try rw [show ((0 : Int)).toNat = 0 from rfl] at hf3_2); (try simp only [Nat.reduceMul, Nat.zero_mul, Nat.zero_add, Nat.reduceAdd] at hf3_2); (try rw [show ((0 : Int)).toNat = 0 from rfl] at hx3_3); (try simp only [Nat.reduceMul, Nat.zero_mul, Nat.zero_add, Nat.reduceAdd] at hx3_3); (try rw [show ((0 : Int)).toNat = 0 from rfl] at hf3_3); (try simp only [Nat.reduceMul, Nat.zero_mul, Nat.zero_add, Nat.reduceAdd] at hf3_3); (try rw [show ((0 : Int)).toNat = 0 from rfl] at hx3_4); (try simp only [Nat.reduceMul, Nat.zero_mul, Nat.zero_add, Nat.reduceAdd] at hx3_4); (try rw [show ((0 : Int)).toNat = 0 from rfl] at hf3_4); (try simp only [Nat.reduceMul, Nat.zero_mul, Nat.zero_add, Nat.reduceAdd] at hf3_4); (try rw [show ((0 : Int)).toNat = 0 from rfl] at hx3_5); (try simp only [Nat.reduceMul, Nat.zero_mul, Nat.zero_add, Nat.reduceAdd] at hx3_5); (try rw [show ((0 : Int)).toNat = 0 from rfl] at hf3_5); (try simp only [Nat.reduceMul, Nat.zero_mul, Nat.zero_add, Nat.reduceAdd] at hf3_5); (try rw [show ((0 : Int)).toNat = 0 from rfl] at hx3_6); (try simp only [Nat.reduceMul, Nat.zero_mul, Nat.zero_add, Nat.reduceAdd] at hx3_6); (try rw [show ((0 : Int)).toNat = 0 from rfl] at hf3_6); (try simp only [Nat.reduceMul, Nat.zero_mul, Nat.zero_add, Nat.reduceAdd] at hf3_6); (try rw [show ((0 : Int)).toNat = 0 from rfl] at hx3_7); (try simp only [Nat.reduceMul, Nat.zero_mul, Nat.zero_add, Nat.reduceAdd] at hx3_7); (try rw [show ((0 : Int)).toNat = 0 from rfl] at hf3_7); (try simp only [Nat.reduceMul, Nat.zero_mul, Nat.zero_add, Nat.reduceAdd] at hf3_7); (try rw [show ((0 : Int)).toNat = 0 from rfl] at hx3_8); (try simp only [Nat.reduceMul, Nat.zero_mul, Nat.zero_add, Nat.reduceAdd] at hx3_8); (try rw [show ((0 : Int)).toNat = 0 from rfl] at hf3_8); (try simp only [Nat.reduceMul, Nat.zero_mul, Nat.zero_add, Nat.reduceAdd] at hf3_8); (try rw [show ((0 : Int)).toNat = 0 from rfl] at hx3_9); (try simp only [Nat.reduceMul, Nat.zero_mul, Nat.zero_add, Nat.reduceAdd] at hx3_9); (try rw [show ((0 : Int)).toNat = 0 from rfl] at hf3_9); (try simp only [Nat.reduceMul, Nat.zero_mul, Nat.zero_add, Nat.reduceAdd] at hf3_9); replace p3 := eq_true p3; replace q3 := eq_true q3; have HX15 := Aside0.mk (show Kd.R k34 34 w14 w.heap.size (fun _ => True) (.slice (some ⟨go3, 0, none⟩) y138.length co10) y138 from (by (with_reducible repeat (first | apply Kd.R_alloc | apply Kd.R_drewN | apply Kd.R_drew)); exact HO140.out)); obtain ⟨ce15, hcl15, hM15, hcc15, hfr15⟩ := Kd.R_elem HX15.out z34 (0 : Int) (by omega) (by have h_ : (0 : Int) < ((y138.length : Int) : Int) := of_decide_eq_true (by first | (with_reducible assumption) | assumption); first | exact h_ | (have e_ := (Kd.R_reads' HO140.out).1; omega) | simpa using h_); obtain rfl := k34_openM hM15; have HP15 := Kd.R_seg HX15.out (0 : Int) (by omega) (by have h_ : (0 : Int) < ((y138.length : Int) : Int) := of_decide_eq_true (by first | (with_reducible assumption) | assumption); first | exact h_ | (have e_ := (Kd.R_reads' HO140.out).1; omega) | simpa using h_) (seg := [.int .i64 1]) (j := 4) hcl15 hcc15 (show 5 ≤ 10 from by decide) (x' := (⟨(⟨(rd_T34 y138 0).f0.f0, (rd_T34 y138 0).f0.f1, (rd_T34 y138 0).f0.f2, (rd_T34 y138 0).f0.f3, 1, (rd_T34 y138 0).f0.f5⟩ : S32), (rd_T34 y138 0).f1, (rd_T34 y138 0).f2, (rd_T34 y138 0).f3, (rd_T34 y138 0).f4⟩ : S34)) (k34_mkM _ _ _ (⟨(⟨(rd_T34 y138 0).f0.f0, (rd_T34 y138 0).f0.f1, (rd_T34 y138 0).f0.f2, (rd_T34 y138 0).f0.f3, 1, (rd_T34 y138 0).f0.f5⟩ : S32), (rd_T34 y138 0).f1, (rd_T34 y138 0).f2, (rd_T34 y138 0).f3, (rd_T34 y138 0).f4⟩ : S34) ) (fun _ hk => hk); have hx15_4 := hcc15 4 _ rfl; (try simp only [show (k34).sz = 10 from rfl, Nat.mul_one, Nat.add_zero] at hx15_4); (try rw [show ((0 : Int)).toNat = 0 from rfl] at hx15_4); (try simp only [Nat.reduceMul, Nat.zero_mul, Nat.zero_add, Nat.reduceAdd] at hx15_4); have hf15_4 := hfr15 4; (try simp only [show (k34).sz = 10 from rfl, Nat.mul_one, Nat.add_zero] at hf15_4); (try rw [show ((0 : Int)).toNat = 0 from rfl] at hf15_4); (try simp only [Nat.reduceMul, Nat.zero_mul, Nat.zero_add, Nat.reduceAdd] at hf15_4); clear hcl15 hcc15 hfr15 hM15) | ((with_reducible refine gate_store (t := 3) (p := 18) rfl ?_); refine store_event (t := 3) (p := 18) (v := ?vo_w16) (w1 := (w14.setCell ⟨go3, 4, none⟩ (.int .i64 1))) ?hg ?ho ?hn ?hr ?_; (case ho => rfl); (case hg => rfl); (case hn => rfl); (case hr => first | (go_simp; done) | (go_simp; rfl)); intro w16 hw; have hg : w14.grownBy w16 (some go3) := (by rw [hw]; exact HP15.2); have hp_ : Kd.R k34 34 w16 w.heap.size (fun _ => True) (.slice (some ⟨go3, 0, none⟩) y138.length co10) y146 := (by rw [hw, Ny146.out]; exact HP15.1); clear HP15; have n0_ := Aside0.mk (hp_); have n1_ := Aside0.mk (blk_grown (g := gb145) (o := .cells #[.int .i64 t141, .int .i64 t142, .int .i64 t143] 37 (0, 0)) (by (with_reducible repeat (first | refine blk_drewN ?_ _ | refine blk_drew ?_ | refine blk_alloc ?_ _)); exact BK145.out) hg (Kd.R_ne HO140.out BK145.out (by decide))); have n2_ := Aside0.mk ((by rw [hw]; exact below_set (HB.out) GB3.out : Below w.heap.size w w16)); clear HO140; clear BK145; clear HB; have HO140 := n0_; have BK145 := n1_; have HB := n2_; clear n0_ n1_ n2_; clear hg hw hp_) | ((with_reducible refine gate_callee (f := 19) rfl ?_); refine goesL_ (some 22) rfl rfl Try.func19 (by kernel_rfl) rfl #[.slice (some ⟨go3, 0, none⟩) y146.length co10, .int .i64 0, .agg #[.int .i64 0, .int .i64 1, .int .i64 1], .int .i64 10, .bool false] rfl (by (try simp only [List.map_toArray, List.map_cons, List.map_nil]); first | done | (rw [show y146.length = y138.length from (Kd.R_reads' HO140.out).1.symm] <;> rfl) | rfl | (simp only [List.length_drop, List.length_take]; rfl)) ?_; (with_reducible refine (score_Of.calls k _ _ y146 0 0 1 1 10 false t147 t148 t149 true _ ?side1 ?side2 A4.out).mono ?_); (case side1 => repeat (first | exact (Kd.R_reads' HO140.out).2.2 | (with_reducible refine Kd.C_alloc ?_ _) | (with_reducible refine Kd.C_drewN ?_ _) | (with_reducible refine Kd.C_drew ?_))); (case side2 => rw [show y146.length = y138.length from (Kd.R_reads' HO140.out).1.symm]; exact (Kd.R_reads' HO140.out).2.1); rintro e w17 ⟨rfl, hb⟩; refine ⟨_, rfl, ?_⟩; have n0_ := Aside0.mk (Kd.R_below (by (with_reducible repeat (first | apply Kd.R_alloc | apply Kd.R_drewN | apply Kd.R_drew)); exact HO140.out) hb); have n1_ := Aside0.mk (blk_below (g := gb145) (o := .cells #[.int .i64 t141, .int .i64 t142, .int .i64 t143] 37 (0, 0)) (by (with_reducible repeat (first | refine blk_drewN ?_ _ | refine blk_drew ?_ | refine blk_alloc ?_ _)); exact BK145.out) hb); have n2_ := Aside0.mk (below_step (by repeat (first | (with_reducible first | exact HB.out | apply below_alloc | apply pw_below_drewN | apply below_drew1 | refine below_set ?_ GE145.out) | exact HB.out)) hb); clear HO140; clear BK145; clear HB; have HO140 := n0_; have BK145 := n1_; have HB := n2_; clear n0_ n1_ n2_; (try clear hb); (try clear hb2); (try clear hk); (try clear hi)) | ((with_reducible refine gate_dst (N := 4) rfl ?_); refine box_event ?hg (N := 4) ?hd (cs := #[.int .i64 0, .int .i64 0, .int .i64 0]) (t := 37) ?hr ?_; (case hd => rfl); (case hg => rfl); (case hr => first | (go_simp; done) | (go_simp; rfl)); intro gb151 hg w18 hbox hb; have n0_ := Aside0.mk (Kd.R_below (by (with_reducible repeat (first | apply Kd.R_alloc | apply Kd.R_drewN | apply Kd.R_drew)); exact HO140.out) hb); have n1_ := Aside0.mk (blk_below (g := gb145) (o := .cells #[.int .i64 t141, .int .i64 t142, .int .i64 t143] 37 (0, 0)) (by (with_reducible repeat (first | refine blk_drewN ?_ _ | refine blk_drew ?_ | refine blk_alloc ?_ _)); exact BK145.out) hb); have n2_ := Aside0.mk (below_step (by repeat (first | (with_reducible first | exact HB.out | apply below_alloc | apply pw_below_drewN | apply below_drew1 | refine below_set ?_ GE145.out) | exact HB.out)) hb); have n3_ := Aside0.mk (hbox); have n4_ := Aside0.mk ((by rw [hg]; exact (below_size (by repeat (first | (with_reducible first | exact HB.out | apply below_alloc | apply pw_below_drewN | apply below_drew1 | refine below_set ?_ GE145.out) | exact HB.out))) : w.heap.size ≤ gb151)); have n5_ := Aside0.mk ((by rw [hg]; exact (below_size (by repeat (first | (with_reducible first | exact HB.out | apply below_alloc | apply pw_below_drewN | apply below_drew1 | refine below_set ?_ GE145.out) | exact HB.out))) : w.heap.size ≤ gb151)); have n6_ := Aside0.mk ((by rw [hg]; exact Nat.ne_of_lt (blk_lt (g := gb145) (o := .cells #[.int .i64 t141, .int .i64 t142, .int .i64 t143] 37 (0, 0)) (by (with_reducible repeat (first | refine blk_drewN ?_ _ | refine blk_drew ?_ | refine blk_alloc ?_ _)); exact BK145.out)) : gb145 ≠ gb151)); have n7_ := Aside0.mk ((by rw [hg]; exact Nat.ne_of_gt (blk_lt (g := gb145) (o := .cells #[.int .i64 t141, .int .i64 t142, .int .i64 t143] 37 (0, 0)) (by (with_reducible repeat (first | refine blk_drewN ?_ _ | refine blk_drew ?_ | refine blk_alloc ?_ _)); exact BK145.out)) : gb151 ≠ gb145)); clear HO140; clear BK145; clear HB; have HO140 := n0_; have BK145 := n1_; have HB := n2_; have BK151 := n3_; have GW151 := n4_; have GE151 := n5_; have NB145_151 := n6_; have NB151_145 := n7_; clear n0_ n1_ n2_ n3_ n4_ n5_ n6_ n7_; clear hb hbox hg; have hnb19 := NB151_145.out; have hnc19 := NB145_151.out; have hcz20_0 : w18.cell? ⟨gb151, 0, none⟩ = some (.int .i64 0) := (blk_cell BK151.out 0).trans rfl; have hcz20_1 : w18.cell? ⟨gb151, 1, none⟩ = some (.int .i64 0) := (blk_cell BK151.out 1).trans rfl; have hcz20_2 : w18.cell? ⟨gb151, 2, none⟩ = some (.int .i64 0) := (blk_cell BK151.out 2).trans rfl; have hfz20_0 := blk_frozen BK151.out 0; have hfz20_1 := blk_frozen BK151.out 1; have hfz20_2 := blk_frozen BK151.out 2; have hcz21_0 : w18.cell? ⟨gb145, 0, none⟩ = some (.int .i64 t141) := (blk_cell BK145.out 0).trans rfl; have hcz21_1 : w18.cell? ⟨gb145, 1, none⟩ = some (.int .i64 t142) := (blk_cell BK145.out 1).trans rfl; have hcz21_2 : w18.cell? ⟨gb145, 2, none⟩ = some (.int .i64 t143) := (blk_cell BK145.out 2).trans rfl; have hfz21_0 := blk_frozen BK145.out 0; have hfz21_1 := blk_frozen BK145.out 1; have hfz21_2 := blk_frozen BK145.out 2))
     go_ret
     exact ⟨by first | rfl | (simp [errW_none, errW_some] <;> rfl) | (simp [*, errW_none, errW_some] <;> rfl), by repeat (first | (with_reducible first | exact HB.out | apply below_alloc | apply pw_below_drewN | apply below_drew1 | refine below_set ?_ GE145.out | refine below_set ?_ GE151.out) | exact HB.out)⟩
    ·rw [if_neg c7] at H
     have c7b0 : (t141 == 8 && (t142 == 10 && (t143 == 40))) = false := by simpa using c7
     (try (have c7b1 : decide (t141 = 8 && (t142 == 10 && (t143 == 40))) = false := by simpa using c7))
     (try (have c7b2 : (t141 == 8 && (t142 == 10 && (t143 == 40))) = false := by simpa using c7))
     (try (have c7b3 : ¬ (t141 = 8 && (t142 == 10 && (t143 == 40))) := by simpa using c7))
     clear c7
     obtain rfl := Option.some.inj H
     go_enter Try.func11, Try.ntmps11
     go_wp2_with (first | ((with_reducible refine gate_dst (N := 8) rfl ?_); refine Kd.R_lit k34 _ 34 ?hg (N := 8) ?hd (xs := ([(⟨(⟨(⟨#[]⟩ : ByteArray), (⟨#[]⟩ : ByteArray), 0, 0, 2, 0⟩ : S32), 4, 0, 0, false⟩ : S34)] : List (S34))) (inner := [.string (⟨#[]⟩ : ByteArray), .string (⟨#[]⟩ : ByteArray), .int .i64 0, .int .i64 0, .int .i64 2, .int .i64 0, .int .i64 4, .int .i64 0, .int .i64 0, .bool false]) (ok := fun _ => True) (okp := fun _ => True) ?hr ?hp (fun _ hk => hk) trivial (Below.refl _ _) (Nat.le_refl _) (by simp) ?_; (case hd => rfl); (case hg => rfl); (case hr => first | (go_simp; done) | (go_simp; rfl)); (case hp => exact (Reps.c10 (show Kd.M k34 _ _ _ (⟨(⟨(⟨#[]⟩ : ByteArray), (⟨#[]⟩ : ByteArray), 0, 0, 2, 0⟩ : S32), 4, 0, 0, false⟩ : S34) [.string (⟨#[]⟩ : ByteArray), .string (⟨#[]⟩ : ByteArray), .int .i64 0, .int .i64 0, .int .i64 2, .int .i64 0, .int .i64 4, .int .i64 0, .int .i64 0, .bool false] from (k34_mkM _ _ _ (⟨(⟨(⟨#[]⟩ : ByteArray), (⟨#[]⟩ : ByteArray), 0, 0, 2, 0⟩ : S32), 4, 0, 0, false⟩ : S34) )) (Reps.none _ _))); intro v139 w22 ho23 hb hg_ hnew_; clear hg_ hnew_; (first | rw [← Ny138.out] at ho23 | (simp only [Int.reduceToNat] at ho23; rw [← Ny138.out] at ho23)); have n0_ := Aside0.mk (Kd.R_lower ho23 (below_size (by repeat (first | (with_reducible first | exact HB.out | apply below_alloc | apply pw_below_drewN | apply below_drew1) | exact HB.out)))); have n1_ := Aside0.mk (below_step (by repeat (first | (with_reducible first | exact HB.out | apply below_alloc | apply pw_below_drewN | apply below_drew1) | exact HB.out)) hb); clear HB; have HO140 := n0_; have HB := n1_; clear n0_ n1_; clear hb ho23; obtain ⟨Ao24, co24, eo24⟩ := Kd.R_slice HO140.out; subst eo24) | ((with_reducible refine gate_callee (f := 19) rfl ?_); refine goesL_ (some 12) rfl rfl Try.func19 (by kernel_rfl) rfl #[.slice Ao24 y138.length co24, .int .i64 0, .agg #[.int .i64 0, .int .i64 1, .int .i64 1], .int .i64 10, .bool false] rfl (by (try simp only [List.map_toArray, List.map_cons, List.map_nil]); first | done | rfl | (simp only [List.length_drop, List.length_take]; rfl)) ?_; (with_reducible refine (score_Of.calls k _ _ y138 0 0 1 1 10 false t141 t142 t143 true _ ?side1 ?side2 A1.out).mono ?_); (case side1 => repeat (first | exact (Kd.R_reads' HO140.out).2.2 | (with_reducible refine Kd.C_alloc ?_ _) | (with_reducible refine Kd.C_drewN ?_ _) | (with_reducible refine Kd.C_drew ?_))); (case side2 => exact (Kd.R_reads' HO140.out).2.1); rintro e w25 ⟨rfl, hb⟩; refine ⟨_, rfl, ?_⟩; have n0_ := Aside0.mk (Kd.R_below (by (with_reducible repeat (first | apply Kd.R_alloc | apply Kd.R_drewN | apply Kd.R_drew)); exact HO140.out) hb); have n1_ := Aside0.mk (below_step (by repeat (first | (with_reducible first | exact HB.out | apply below_alloc | apply pw_below_drewN | apply below_drew1) | exact HB.out)) hb); clear HO140; clear HB; have HO140 := n0_; have HB := n1_; clear n0_ n1_; (try clear hb); (try clear hb2); (try clear hk); (try clear hi)) | ((with_reducible refine gate_dst (N := 2) rfl ?_); refine box_event ?hg (N := 2) ?hd (cs := #[.int .i64 0, .int .i64 0, .int .i64 0]) (t := 37) ?hr ?_; (case hd => rfl); (case hg => rfl); (case hr => first | (go_simp; done) | (go_simp; rfl)); intro gb145 hg w26 hbox hb; have n0_ := Aside0.mk (Kd.R_below (by (with_reducible repeat (first | apply Kd.R_alloc | apply Kd.R_drewN | apply Kd.R_drew)); exact HO140.out) hb); have n1_ := Aside0.mk (below_step (by repeat (first | (with_reducible first | exact HB.out | apply below_alloc | apply pw_below_drewN | apply below_drew1) | exact HB.out)) hb); have n2_ := Aside0.mk (hbox); have n3_ := Aside0.mk ((by rw [hg]; exact (below_size (by repeat (first | (with_reducible first | exact HB.out | apply below_alloc | apply pw_below_drewN | apply below_drew1) | exact HB.out))) : w.heap.size ≤ gb145)); have n4_ := Aside0.mk ((by rw [hg]; exact (below_size (by repeat (first | (with_reducible first | exact HB.out | apply below_alloc | apply pw_below_drewN | apply below_drew1) | exact HB.out))) : w.heap.size ≤ gb145)); clear HO140; clear HB; have HO140 := n0_; have HB := n1_; have BK145 := n2_; have GW145 := n3_; have GE145 := n4_; clear n0_ n1_ n2_ n3_ n4_; clear hb hbox hg; have hcz27_0 : w26.cell? ⟨gb145, 0, none⟩ = some (.int .i64 0) := (blk_cell BK145.out 0).trans rfl; have hcz27_1 : w26.cell? ⟨gb145, 1, none⟩ = some (.int .i64 0) := (blk_cell BK145.out 1).trans rfl; have hcz27_2 : w26.cell? ⟨gb145, 2, none⟩ = some (.int .i64 0) := (blk_cell BK145.out 2).trans rfl; have hfz27_0 := blk_frozen BK145.out 0; have hfz27_1 := blk_frozen BK145.out 1; have hfz27_2 := blk_frozen BK145.out 2) | ((with_reducible refine gate_store (t := 37) (p := 2) rfl ?_); refine store_event (t := 37) (p := 2) (v := ?vo_w28) (w1 := (((w26.setCell ⟨gb145, 0, none⟩ (.int .i64 t141)).setCell ⟨gb145, 1, none⟩ (.int .i64 t142)).setCell ⟨gb145, 2, none⟩ (.int .i64 t143))) ?hg ?ho ?hn ?hr ?_; (case ho => rfl); (case hg => rfl); (case hn => rfl); (case hr => first | (go_simp; done) | (go_simp; rfl)); intro w28 hw; have n0_ : Aside0 (Kd.R k34 34 w28 w.heap.size (fun _ => True) (.slice Ao24 y138.length co24) y138) := ⟨(by rw [hw]; exact (by (with_reducible repeat (first | apply Kd.R_alloc | apply Kd.R_drewN | apply Kd.R_drew)); exact Kd.R_mono (Kd.R_far (p := ⟨gb145, 2, none⟩) (Kd.R_far (p := ⟨gb145, 1, none⟩) (Kd.R_far (p := ⟨gb145, 0, none⟩) (Kd.R_types HO140.out BK145.out (by decide)) (fun _ hk => hk.2) (.int .i64 t141)) (fun _ hk => hk.2) (.int .i64 t142)) (fun _ hk => hk.2) (.int .i64 t143)) (fun _ hk => trivial)))⟩; have n1_ : Aside0 (w28.heap[gb145]? = some (.cells #[.int .i64 t141, .int .i64 t142, .int .i64 t143] 37 (0, 0))) := ⟨(by rw [hw]; exact (by (with_reducible repeat (first | refine blk_drewN ?_ _ | refine blk_drew ?_ | refine blk_alloc ?_ _)); refine blk_put (cs := #[.int .i64 t141, .int .i64 t142, .int .i64 0]) ?_ 2 _ rfl; (with_reducible repeat (first | refine blk_drewN ?_ _ | refine blk_drew ?_ | refine blk_alloc ?_ _)); refine blk_put (cs := #[.int .i64 t141, .int .i64 0, .int .i64 0]) ?_ 1 _ rfl; (with_reducible repeat (first | refine blk_drewN ?_ _ | refine blk_drew ?_ | refine blk_alloc ?_ _)); refine blk_put (cs := #[.int .i64 0, .int .i64 0, .int .i64 0]) ?_ 0 _ rfl; (with_reducible repeat (first | refine blk_drewN ?_ _ | refine blk_drew ?_ | refine blk_alloc ?_ _)); exact BK145.out))⟩; have n2_ : Aside0 (Below w.heap.size w w28) := ⟨(by rw [hw]; exact (by repeat (first | (with_reducible first | exact HB.out | apply below_alloc | apply pw_below_drewN | apply below_drew1 | refine below_set ?_ GE145.out) | exact HB.out)))⟩; clear hw; clear HO140; clear BK145; clear HB; have HO140 := n0_; have BK145 := n1_; have HB := n2_; clear n0_ n1_ n2_; have p3 : 0 ≤ (0 : Int) := (by omega); have q3 : (0 : Int) < ((y138.length : Int) : Int) := of_decide_eq_true (by first | (with_reducible assumption) | assumption); have qi3 : (0 < y138.length) = True := eq_true (by omega); obtain ⟨go3, co3, eo3, gb3, gl3, cl3, HG3⟩ := Kd.R_form HO140.out (by omega); (first | cases eo3 | (injection eo3 with ea_ en_ ec_; (first | subst ea_ | (injection ea_ with ea_; subst ea_)); subst ec_; clear en_)); have GB3 := Aside0.mk gb3; have GG3 := Aside0.mk HG3; clear gb3 gl3 HG3; obtain ⟨ce3, hcl3, hM3, hcc3, hfr3⟩ := Kd.R_elem HO140.out z34 (0 : Int) p3 q3; obtain rfl := k34_openM hM3; have hx3_0 : w28.cell? ⟨go3, (0 : Int).toNat * 10, none⟩ = some (.string ((rd_T34 y138 0).f0.f0)) := hcc3 0 _ rfl; have hx3_1 : w28.cell? ⟨go3, (0 : Int).toNat * 10 + 1, none⟩ = some (.string ((rd_T34 y138 0).f0.f1)) := hcc3 1 _ rfl; have hx3_2 : w28.cell? ⟨go3, (0 : Int).toNat * 10 + 2, none⟩ = some (.int .i64 ((rd_T34 y138 0).f0.f2)) := hcc3 2 _ rfl; have hx3_3 : w28.cell? ⟨go3, (0 : Int).toNat * 10 + 3, none⟩ = some (.int .i64 ((rd_T34 y138 0).f0.f3)) := hcc3 3 _ rfl; have hx3_4 : w28.cell? ⟨go3, (0 : Int).toNat * 10 + 4, none⟩ = some (.int .i64 ((rd_T34 y138 0).f0.f4)) := hcc3 4 _ rfl; have hx3_5 : w28.cell? ⟨go3, (0 : Int).toNat * 10 + 5, none⟩ = some (.int .i64 ((rd_T34 y138 0).f0.f5)) := hcc3 5 _ rfl; have hx3_6 : w28.cell? ⟨go3, (0 : Int).toNat * 10 + 6, none⟩ = some (.int .i64 ((rd_T34 y138 0).f1)) := hcc3 6 _ rfl; have hx3_7 : w28.cell? ⟨go3, (0 : Int).toNat * 10 + 7, none⟩ = some (.int .i64 ((rd_T34 y138 0).f2)) := hcc3 7 _ rfl; have hx3_8 : w28.cell? ⟨go3, (0 : Int).toNat * 10 + 8, none⟩ = some (.int .i64 ((rd_T34 y138 0).f3)) := hcc3 8 _ rfl; have hx3_9 : w28.cell? ⟨go3, (0 : Int).toNat * 10 + 9, none⟩ = some (.bool ((rd_T34 y138 0).f4)) := hcc3 9 _ rfl; have hf3_0 : w28.frozen? ⟨go3, (0 : Int).toNat * 10, none⟩ = false := hfr3 0; have hf3_1 : w28.frozen? ⟨go3, (0 : Int).toNat * 10 + 1, none⟩ = false := hfr3 1; have hf3_2 : w28.frozen? ⟨go3, (0 : Int).toNat * 10 + 2, none⟩ = false := hfr3 2; have hf3_3 : w28.frozen? ⟨go3, (0 : Int).toNat * 10 + 3, none⟩ = false := hfr3 3; have hf3_4 : w28.frozen? ⟨go3, (0 : Int).toNat * 10 + 4, none⟩ = false := hfr3 4; have hf3_5 : w28.frozen? ⟨go3, (0 : Int).toNat * 10 + 5, none⟩ = false := hfr3 5; have hf3_6 : w28.frozen? ⟨go3, (0 : Int).toNat * 10 + 6, none⟩ = false := hfr3 6; have hf3_7 : w28.frozen? ⟨go3, (0 : Int).toNat * 10 + 7, none⟩ = false := hfr3 7; have hf3_8 : w28.frozen? ⟨go3, (0 : Int).toNat * 10 + 8, none⟩ = false := hfr3 8; have hf3_9 : w28.frozen? ⟨go3, (0 : Int).toNat * 10 + 9, none⟩ = false := hfr3 9; clear hcl3 hcc3 hfr3 hM3; (try rw [show ((0 : Int)).toNat = 0 from rfl] at hx3_0); (try simp only [Nat.reduceMul, Nat.zero_mul, Nat.zero_add, Nat.reduceAdd] at hx3_0); (try rw [show ((0 : Int)).toNat = 0 from rfl] at hf3_0); (try simp only [Nat.reduceMul, Nat.zero_mul, Nat.zero_add, Nat.reduceAdd] at hf3_0); (try rw [show ((0 : Int)).toNat = 0 from rfl] at hx3_1); (try simp only [Nat.reduceMul, Nat.zero_mul, Nat.zero_add, Nat.reduceAdd] at hx3_1); (try rw [show ((0 : Int)).toNat = 0 from rfl] at hf3_1); (try simp only [Nat.reduceMul, Nat.zero_mul, Nat.zero_add, Nat.reduceAdd] at hf3_1); (try rw [show ((0 : Int)).toNat = 0 from rfl] at hx3_2); (try simp only [Nat.reduceMul, Nat.zero_mul, Nat.zero_add, Nat.reduceAdd] at hx3_2); (try rw [show ((0 : Int)).toNat = 0 from rfl] at hf3_2); (try simp only [Nat.reduceMul, Nat.zero_mul, Nat.zero_add, Nat.reduceAdd] at hf3_2); (try rw [show ((0 : Int)).toNat = 0 from rfl] at hx3_3); (try simp only [Nat.reduceMul, Nat.zero_mul, Nat.zero_add, Nat.reduceAdd] at hx3_3); (try rw [show ((0 : Int)).toNat = 0 from rfl] at hf3_3); (try simp only [Nat.reduceMul, Nat.zero_mul, Nat.zero_add, Nat.reduceAdd] at hf3_3); (try rw [show ((0 : Int)).toNat = 0 from rfl] at hx3_4); (try simp only [Nat.reduceMul, Nat.zero_mul, Nat.zero_add, Nat.reduceAdd] at hx3_4); (try rw [show ((0 : Int)).toNat = 0 from rfl] at hf3_4); (try simp only [Nat.reduceMul, Nat.zero_mul, Nat.zero_add, Nat.reduceAdd] at hf3_4); (try rw [show ((0 : Int)).toNat = 0 from rfl] at hx3_5); (try simp only [Nat.reduceMul, Nat.zero_mul, Nat.zero_add, Nat.reduceAdd] at hx3_5); (try rw [show ((0 : Int)).toNat = 0 from rfl] at hf3_5); (try simp only [Nat.reduceMul, Nat.zero_mul, Nat.zero_add, Nat.reduceAdd] at hf3_5); (try rw [show ((0 : Int)).toNat = 0 from rfl] at hx3_6); (try simp only [Nat.reduceMul, Nat.zero_mul, Nat.zero_add, Nat.reduceAdd] at hx3_6); (try rw [show ((0 : Int)).toNat = 0 from rfl] at hf3_6); (try simp only [Nat.reduceMul, Nat.zero_mul, Nat.zero_add, Nat.reduceAdd] at hf3_6); (try rw [show ((0 : Int)).toNat = 0 from rfl] at hx3_7); (try simp only [Nat.reduceMul, Nat.zero_mul, Nat.zero_add, Nat.reduceAdd] at hx3_7); (try rw [show ((0 : Int)).toNat = 0 from rfl] at hf3_7); (try simp only [Nat.reduceMul, Nat.zero_mul, Nat.zero_add, Nat.reduceAdd] at hf3_7); (try rw [show ((0 : Int)).toNat = 0 from rfl] at hx3_8); (try simp only [Nat.reduceMul, Nat.zero_mul, Nat.zero_add, Nat.reduceAdd] at hx3_8); (try rw [show ((0 : Int)).toNat = 0 from rfl] at hf3_8); (try simp only [Nat.reduceMul, Nat.zero_mul, Nat.zero_add, Nat.reduceAdd] at hf3_8); (try rw [show ((0 : Int)).toNat = 0 from rfl] at hx3_9); (try simp only [Nat.reduceMul, Nat.zero_mul, Nat.zero_add, Nat.reduceAdd] at hx3_9); (try rw [show ((0 : Int)).toNat = 0 from rfl] at hf3_9); (try simp only [Nat.reduceMul, Nat.zero_mul, Nat.zero_add, Nat.reduceAdd] at hf3_9); replace p3 := eq_true p3; replace q3 := eq_true q3; have HX29 := Aside0.mk (show Kd.R k34 34 w28 w.heap.size (fun _ => True) (.slice (some ⟨go3, 0, none⟩) y138.length co24) y138 from (by (with_reducible repeat (first | apply Kd.R_alloc | apply Kd.R_drewN | apply Kd.R_drew)); exact HO140.out)); obtain ⟨ce29, hcl29, hM29, hcc29, hfr29⟩ := Kd.R_elem HX29.out z34 (0 : Int) (by omega) (by have h_ : (0 : Int) < ((y138.length : Int) : Int) := of_decide_eq_true (by first | (with_reducible assumption) | assumption); first | exact h_ | (have e_ := (Kd.R_reads' HO140.out).1; omega) | simpa using h_); obtain rfl := k34_openM hM29; have HP29 := Kd.R_seg HX29.out (0 : Int) (by omega) (by have h_ : (0 : Int) < ((y138.length : Int) : Int) := of_decide_eq_true (by first | (with_reducible assumption) | assumption); first | exact h_ | (have e_ := (Kd.R_reads' HO140.out).1; omega) | simpa using h_) (seg := [.int .i64 1]) (j := 4) hcl29 hcc29 (show 5 ≤ 10 from by decide) (x' := (⟨(⟨(rd_T34 y138 0).f0.f0, (rd_T34 y138 0).f0.f1, (rd_T34 y138 0).f0.f2, (rd_T34 y138 0).f0.f3, 1, (rd_T34 y138 0).f0.f5⟩ : S32), (rd_T34 y138 0).f1, (rd_T34 y138 0).f2, (rd_T34 y138 0).f3, (rd_T34 y138 0).f4⟩ : S34)) (k34_mkM _ _ _ (⟨(⟨(rd_T34 y138 0).f0.f0, (rd_T34 y138 0).f0.f1, (rd_T34 y138 0).f0.f2, (rd_T34 y138 0).f0.f3, 1, (rd_T34 y138 0).f0.f5⟩ : S32), (rd_T34 y138 0).f1, (rd_T34 y138 0).f2, (rd_T34 y138 0).f3, (rd_T34 y138 0).f4⟩ : S34) ) (fun _ hk => hk); have hx29_4 := hcc29 4 _ rfl; (try simp only [show (k34).sz = 10 from rfl, Nat.mul_one, Nat.add_zero] at hx29_4); (try rw [show ((0 : Int)).toNat = 0 from rfl] at hx29_4); (try simp only [Nat.reduceMul, Nat.zero_mul, Nat.zero_add, Nat.reduceAdd] at hx29_4); have hf29_4 := hfr29 4; (try simp only [show (k34).sz = 10 from rfl, Nat.mul_one, Nat.add_zero] at hf29_4); (try rw [show ((0 : Int)).toNat = 0 from rfl] at hf29_4); (try simp only [Nat.reduceMul, Nat.zero_mul, Nat.zero_add, Nat.reduceAdd] at hf29_4); clear hcl29 hcc29 hfr29 hM29) | ((with_reducible refine gate_store (t := 3) (p := 18) rfl ?_); refine store_event (t := 3) (p := 18) (v := ?vo_w30) (w1 := (w28.setCell ⟨go3, 4, none⟩ (.int .i64 1))) ?hg ?ho ?hn ?hr ?_; (case ho => rfl); (case hg => rfl); (case hn => rfl); (case hr => first | (go_simp; done) | (go_simp; rfl)); intro w30 hw; have hg : w28.grownBy w30 (some go3) := (by rw [hw]; exact HP29.2); have hp_ : Kd.R k34 34 w30 w.heap.size (fun _ => True) (.slice (some ⟨go3, 0, none⟩) y138.length co24) y146 := (by rw [hw, Ny146.out]; exact HP29.1); clear HP29; have n0_ := Aside0.mk (hp_); have n1_ := Aside0.mk (blk_grown (g := gb145) (o := .cells #[.int .i64 t141, .int .i64 t142, .int .i64 t143] 37 (0, 0)) (by (with_reducible repeat (first | refine blk_drewN ?_ _ | refine blk_drew ?_ | refine blk_alloc ?_ _)); exact BK145.out) hg (Kd.R_ne HO140.out BK145.out (by decide))); have n2_ := Aside0.mk ((by rw [hw]; exact below_set (HB.out) GB3.out : Below w.heap.size w w30)); clear HO140; clear BK145; clear HB; have HO140 := n0_; have BK145 := n1_; have HB := n2_; clear n0_ n1_ n2_; clear hg hw hp_) | ((with_reducible refine gate_callee (f := 19) rfl ?_); refine goesL_ (some 22) rfl rfl Try.func19 (by kernel_rfl) rfl #[.slice (some ⟨go3, 0, none⟩) y146.length co24, .int .i64 0, .agg #[.int .i64 0, .int .i64 1, .int .i64 1], .int .i64 10, .bool false] rfl (by (try simp only [List.map_toArray, List.map_cons, List.map_nil]); first | done | (rw [show y146.length = y138.length from (Kd.R_reads' HO140.out).1.symm] <;> rfl) | rfl | (simp only [List.length_drop, List.length_take]; rfl)) ?_; (with_reducible refine (score_Of.calls k _ _ y146 0 0 1 1 10 false t147 t148 t149 true _ ?side1 ?side2 A4.out).mono ?_); (case side1 => repeat (first | exact (Kd.R_reads' HO140.out).2.2 | (with_reducible refine Kd.C_alloc ?_ _) | (with_reducible refine Kd.C_drewN ?_ _) | (with_reducible refine Kd.C_drew ?_))); (case side2 => rw [show y146.length = y138.length from (Kd.R_reads' HO140.out).1.symm]; exact (Kd.R_reads' HO140.out).2.1); rintro e w31 ⟨rfl, hb⟩; refine ⟨_, rfl, ?_⟩; have n0_ := Aside0.mk (Kd.R_below (by (with_reducible repeat (first | apply Kd.R_alloc | apply Kd.R_drewN | apply Kd.R_drew)); exact HO140.out) hb); have n1_ := Aside0.mk (blk_below (g := gb145) (o := .cells #[.int .i64 t141, .int .i64 t142, .int .i64 t143] 37 (0, 0)) (by (with_reducible repeat (first | refine blk_drewN ?_ _ | refine blk_drew ?_ | refine blk_alloc ?_ _)); exact BK145.out) hb); have n2_ := Aside0.mk (below_step (by repeat (first | (with_reducible first | exact HB.out | apply below_alloc | apply pw_below_drewN | apply below_drew1 | refine below_set ?_ GE145.out) | exact HB.out)) hb); clear HO140; clear BK145; clear HB; have HO140 := n0_; have BK145 := n1_; have HB := n2_; clear n0_ n1_ n2_; (try clear hb); (try clear hb2); (try clear hk); (try clear hi)) | ((with_reducible refine gate_dst (N := 4) rfl ?_); refine box_event ?hg (N := 4) ?hd (cs := #[.int .i64 0, .int .i64 0, .int .i64 0]) (t := 37) ?hr ?_; (case hd => rfl); (case hg => rfl); (case hr => first | (go_simp; done) | (go_simp; rfl)); intro gb151 hg w32 hbox hb; have n0_ := Aside0.mk (Kd.R_below (by (with_reducible repeat (first | apply Kd.R_alloc | apply Kd.R_drewN | apply Kd.R_drew)); exact HO140.out) hb); have n1_ := Aside0.mk (blk_below (g := gb145) (o := .cells #[.int .i64 t141, .int .i64 t142, .int .i64 t143] 37 (0, 0)) (by (with_reducible repeat (first | refine blk_drewN ?_ _ | refine blk_drew ?_ | refine blk_alloc ?_ _)); exact BK145.out) hb); have n2_ := Aside0.mk (below_step (by repeat (first | (with_reducible first | exact HB.out | apply below_alloc | apply pw_below_drewN | apply below_drew1 | refine below_set ?_ GE145.out) | exact HB.out)) hb); have n3_ := Aside0.mk (hbox); have n4_ := Aside0.mk ((by rw [hg]; exact (below_size (by repeat (first | (with_reducible first | exact HB.out | apply below_alloc | apply pw_below_drewN | apply below_drew1 | refine below_set ?_ GE145.out) | exact HB.out))) : w.heap.size ≤ gb151)); have n5_ := Aside0.mk ((by rw [hg]; exact (below_size (by repeat (first | (with_reducible first | exact HB.out | apply below_alloc | apply pw_below_drewN | apply below_drew1 | refine below_set ?_ GE145.out) | exact HB.out))) : w.heap.size ≤ gb151)); have n6_ := Aside0.mk ((by rw [hg]; exact Nat.ne_of_lt (blk_lt (g := gb145) (o := .cells #[.int .i64 t141, .int .i64 t142, .int .i64 t143] 37 (0, 0)) (by (with_reducible repeat (first | refine blk_drewN ?_ _ | refine blk_drew ?_ | refine blk_alloc ?_ _)); exact BK145.out)) : gb145 ≠ gb151)); have n7_ := Aside0.mk ((by rw [hg]; exact Nat.ne_of_gt (blk_lt (g := gb145) (o := .cells #[.int .i64 t141, .int .i64 t142, .int .i64 t143] 37 (0, 0)) (by (with_reducible repeat (first | refine blk_drewN ?_ _ | refine blk_drew ?_ | refine blk_alloc ?_ _)); exact BK145.out)) : gb151 ≠ gb145)); clear HO140; clear BK145; clear HB; have HO140 := n0_; have BK145 := n1_; have HB := n2_; have BK151 := n3_; have GW151 := n4_; have GE151 := n5_; have NB145_151 := n6_; have NB151_145 := n7_; clear n0_ n1_ n2_ n3_ n4_ n5_ n6_ n7_; clear hb hbox hg; have hnb33 := NB151_145.out; have hnc33 := NB145_151.out; have hcz34_0 : w32.cell? ⟨gb151, 0, none⟩ = some (.int .i64 0) := (blk_cell BK151.out 0).trans rfl; have hcz34_1 : w32.cell? ⟨gb151, 1, none⟩ = some (.int .i64 0) := (blk_cell BK151.out 1).trans rfl; have hcz34_2 : w32.cell? ⟨gb151, 2, none⟩ = some (.int .i64 0) := (blk_cell BK151.out 2).trans rfl; have hfz34_0 := blk_frozen BK151.out 0; have hfz34_1 := blk_frozen BK151.out 1; have hfz34_2 := blk_frozen BK151.out 2; have hcz35_0 : w32.cell? ⟨gb145, 0, none⟩ = some (.int .i64 t141) := (blk_cell BK145.out 0).trans rfl; have hcz35_1 : w32.cell? ⟨gb145, 1, none⟩ = some (.int .i64 t142) := (blk_cell BK145.out 1).trans rfl; have hcz35_2 : w32.cell? ⟨gb145, 2, none⟩ = some (.int .i64 t143) := (blk_cell BK145.out 2).trans rfl; have hfz35_0 := blk_frozen BK145.out 0; have hfz35_1 := blk_frozen BK145.out 1; have hfz35_2 := blk_frozen BK145.out 2))
     go_ret
     exact ⟨by first | rfl | (simp [errW_none, errW_some] <;> rfl) | (simp [*, errW_none, errW_some] <;> rfl), by repeat (first | (with_reducible first | exact HB.out | apply below_alloc | apply pw_below_drewN | apply below_drew1 | refine below_set ?_ GE145.out | refine below_set ?_ GE151.out) | exact HB.out)⟩
   ·replace c6 := Bool.eq_false_iff.mpr c6
    subst c6
    have H1 : (some false) = some r := by rw [if_neg (show ¬ (false = true) by decide)] at H; exact H
    clear H
    have H := H1
    clear H1
    obtain rfl := Option.some.inj H
    go_enter Try.func11, Try.ntmps11
    go_wp2_with (first | ((with_reducible refine gate_dst (N := 8) rfl ?_); refine Kd.R_lit k34 _ 34 ?hg (N := 8) ?hd (xs := ([(⟨(⟨(⟨#[]⟩ : ByteArray), (⟨#[]⟩ : ByteArray), 0, 0, 2, 0⟩ : S32), 4, 0, 0, false⟩ : S34)] : List (S34))) (inner := [.string (⟨#[]⟩ : ByteArray), .string (⟨#[]⟩ : ByteArray), .int .i64 0, .int .i64 0, .int .i64 2, .int .i64 0, .int .i64 4, .int .i64 0, .int .i64 0, .bool false]) (ok := fun _ => True) (okp := fun _ => True) ?hr ?hp (fun _ hk => hk) trivial (Below.refl _ _) (Nat.le_refl _) (by simp) ?_; (case hd => rfl); (case hg => rfl); (case hr => first | (go_simp; done) | (go_simp; rfl)); (case hp => exact (Reps.c10 (show Kd.M k34 _ _ _ (⟨(⟨(⟨#[]⟩ : ByteArray), (⟨#[]⟩ : ByteArray), 0, 0, 2, 0⟩ : S32), 4, 0, 0, false⟩ : S34) [.string (⟨#[]⟩ : ByteArray), .string (⟨#[]⟩ : ByteArray), .int .i64 0, .int .i64 0, .int .i64 2, .int .i64 0, .int .i64 4, .int .i64 0, .int .i64 0, .bool false] from (k34_mkM _ _ _ (⟨(⟨(⟨#[]⟩ : ByteArray), (⟨#[]⟩ : ByteArray), 0, 0, 2, 0⟩ : S32), 4, 0, 0, false⟩ : S34) )) (Reps.none _ _))); intro v139 w36 ho37 hb hg_ hnew_; clear hg_ hnew_; (first | rw [← Ny138.out] at ho37 | (simp only [Int.reduceToNat] at ho37; rw [← Ny138.out] at ho37)); have n0_ := Aside0.mk (Kd.R_lower ho37 (below_size (by repeat (first | (with_reducible first | exact HB.out | apply below_alloc | apply pw_below_drewN | apply below_drew1) | exact HB.out)))); have n1_ := Aside0.mk (below_step (by repeat (first | (with_reducible first | exact HB.out | apply below_alloc | apply pw_below_drewN | apply below_drew1) | exact HB.out)) hb); clear HB; have HO140 := n0_; have HB := n1_; clear n0_ n1_; clear hb ho37; obtain ⟨Ao38, co38, eo38⟩ := Kd.R_slice HO140.out; subst eo38) | ((with_reducible refine gate_callee (f := 19) rfl ?_); refine goesL_ (some 12) rfl rfl Try.func19 (by kernel_rfl) rfl #[.slice Ao38 y138.length co38, .int .i64 0, .agg #[.int .i64 0, .int .i64 1, .int .i64 1], .int .i64 10, .bool false] rfl (by (try simp only [List.map_toArray, List.map_cons, List.map_nil]); first | done | rfl | (simp only [List.length_drop, List.length_take]; rfl)) ?_; (with_reducible refine (score_Of.calls k _ _ y138 0 0 1 1 10 false t141 t142 t143 true _ ?side1 ?side2 A1.out).mono ?_); (case side1 => repeat (first | exact (Kd.R_reads' HO140.out).2.2 | (with_reducible refine Kd.C_alloc ?_ _) | (with_reducible refine Kd.C_drewN ?_ _) | (with_reducible refine Kd.C_drew ?_))); (case side2 => exact (Kd.R_reads' HO140.out).2.1); rintro e w39 ⟨rfl, hb⟩; refine ⟨_, rfl, ?_⟩; have n0_ := Aside0.mk (Kd.R_below (by (with_reducible repeat (first | apply Kd.R_alloc | apply Kd.R_drewN | apply Kd.R_drew)); exact HO140.out) hb); have n1_ := Aside0.mk (below_step (by repeat (first | (with_reducible first | exact HB.out | apply below_alloc | apply pw_below_drewN | apply below_drew1) | exact HB.out)) hb); clear HO140; clear HB; have HO140 := n0_; have HB := n1_; clear n0_ n1_; (try clear hb); (try clear hb2); (try clear hk); (try clear hi)) | ((with_reducible refine gate_dst (N := 2) rfl ?_); refine box_event ?hg (N := 2) ?hd (cs := #[.int .i64 0, .int .i64 0, .int .i64 0]) (t := 37) ?hr ?_; (case hd => rfl); (case hg => rfl); (case hr => first | (go_simp; done) | (go_simp; rfl)); intro gb145 hg w40 hbox hb; have n0_ := Aside0.mk (Kd.R_below (by (with_reducible repeat (first | apply Kd.R_alloc | apply Kd.R_drewN | apply Kd.R_drew)); exact HO140.out) hb); have n1_ := Aside0.mk (below_step (by repeat (first | (with_reducible first | exact HB.out | apply below_alloc | apply pw_below_drewN | apply below_drew1) | exact HB.out)) hb); have n2_ := Aside0.mk (hbox); have n3_ := Aside0.mk ((by rw [hg]; exact (below_size (by repeat (first | (with_reducible first | exact HB.out | apply below_alloc | apply pw_below_drewN | apply below_drew1) | exact HB.out))) : w.heap.size ≤ gb145)); have n4_ := Aside0.mk ((by rw [hg]; exact (below_size (by repeat (first | (with_reducible first | exact HB.out | apply below_alloc | apply pw_below_drewN | apply below_drew1) | exact HB.out))) : w.heap.size ≤ gb145)); clear HO140; clear HB; have HO140 := n0_; have HB := n1_; have BK145 := n2_; have GW145 := n3_; have GE145 := n4_; clear n0_ n1_ n2_ n3_ n4_; clear hb hbox hg; have hcz41_0 : w40.cell? ⟨gb145, 0, none⟩ = some (.int .i64 0) := (blk_cell BK145.out 0).trans rfl; have hcz41_1 : w40.cell? ⟨gb145, 1, none⟩ = some (.int .i64 0) := (blk_cell BK145.out 1).trans rfl; have hcz41_2 : w40.cell? ⟨gb145, 2, none⟩ = some (.int .i64 0) := (blk_cell BK145.out 2).trans rfl; have hfz41_0 := blk_frozen BK145.out 0; have hfz41_1 := blk_frozen BK145.out 1; have hfz41_2 := blk_frozen BK145.out 2) | ((with_reducible refine gate_store (t := 37) (p := 2) rfl ?_); refine store_event (t := 37) (p := 2) (v := ?vo_w42) (w1 := (((w40.setCell ⟨gb145, 0, none⟩ (.int .i64 t141)).setCell ⟨gb145, 1, none⟩ (.int .i64 t142)).setCell ⟨gb145, 2, none⟩ (.int .i64 t143))) ?hg ?ho ?hn ?hr ?_; (case ho => rfl); (case hg => rfl); (case hn => rfl); (case hr => first | (go_simp; done) | (go_simp; rfl)); intro w42 hw; have n0_ : Aside0 (Kd.R k34 34 w42 w.heap.size (fun _ => True) (.slice Ao38 y138.length co38) y138) := ⟨(by rw [hw]; exact (by (with_reducible repeat (first | apply Kd.R_alloc | apply Kd.R_drewN | apply Kd.R_drew)); exact Kd.R_mono (Kd.R_far (p := ⟨gb145, 2, none⟩) (Kd.R_far (p := ⟨gb145, 1, none⟩) (Kd.R_far (p := ⟨gb145, 0, none⟩) (Kd.R_types HO140.out BK145.out (by decide)) (fun _ hk => hk.2) (.int .i64 t141)) (fun _ hk => hk.2) (.int .i64 t142)) (fun _ hk => hk.2) (.int .i64 t143)) (fun _ hk => trivial)))⟩; have n1_ : Aside0 (w42.heap[gb145]? = some (.cells #[.int .i64 t141, .int .i64 t142, .int .i64 t143] 37 (0, 0))) := ⟨(by rw [hw]; exact (by (with_reducible repeat (first | refine blk_drewN ?_ _ | refine blk_drew ?_ | refine blk_alloc ?_ _)); refine blk_put (cs := #[.int .i64 t141, .int .i64 t142, .int .i64 0]) ?_ 2 _ rfl; (with_reducible repeat (first | refine blk_drewN ?_ _ | refine blk_drew ?_ | refine blk_alloc ?_ _)); refine blk_put (cs := #[.int .i64 t141, .int .i64 0, .int .i64 0]) ?_ 1 _ rfl; (with_reducible repeat (first | refine blk_drewN ?_ _ | refine blk_drew ?_ | refine blk_alloc ?_ _)); refine blk_put (cs := #[.int .i64 0, .int .i64 0, .int .i64 0]) ?_ 0 _ rfl; (with_reducible repeat (first | refine blk_drewN ?_ _ | refine blk_drew ?_ | refine blk_alloc ?_ _)); exact BK145.out))⟩; have n2_ : Aside0 (Below w.heap.size w w42) := ⟨(by rw [hw]; exact (by repeat (first | (with_reducible first | exact HB.out | apply below_alloc | apply pw_below_drewN | apply below_drew1 | refine below_set ?_ GE145.out) | exact HB.out)))⟩; clear hw; clear HO140; clear BK145; clear HB; have HO140 := n0_; have BK145 := n1_; have HB := n2_; clear n0_ n1_ n2_; have p3 : 0 ≤ (0 : Int) := (by omega); have q3 : (0 : Int) < ((y138.length : Int) : Int) := of_decide_eq_true (by first | (with_reducible assumption) | assumption); have qi3 : (0 < y138.length) = True := eq_true (by omega); obtain ⟨go3, co3, eo3, gb3, gl3, cl3, HG3⟩ := Kd.R_form HO140.out (by omega); (first | cases eo3 | (injection eo3 with ea_ en_ ec_; (first | subst ea_ | (injection ea_ with ea_; subst ea_)); subst ec_; clear en_)); have GB3 := Aside0.mk gb3; have GG3 := Aside0.mk HG3; clear gb3 gl3 HG3; obtain ⟨ce3, hcl3, hM3, hcc3, hfr3⟩ := Kd.R_elem HO140.out z34 (0 : Int) p3 q3; obtain rfl := k34_openM hM3; have hx3_0 : w42.cell? ⟨go3, (0 : Int).toNat * 10, none⟩ = some (.string ((rd_T34 y138 0).f0.f0)) := hcc3 0 _ rfl; have hx3_1 : w42.cell? ⟨go3, (0 : Int).toNat * 10 + 1, none⟩ = some (.string ((rd_T34 y138 0).f0.f1)) := hcc3 1 _ rfl; have hx3_2 : w42.cell? ⟨go3, (0 : Int).toNat * 10 + 2, none⟩ = some (.int .i64 ((rd_T34 y138 0).f0.f2)) := hcc3 2 _ rfl; have hx3_3 : w42.cell? ⟨go3, (0 : Int).toNat * 10 + 3, none⟩ = some (.int .i64 ((rd_T34 y138 0).f0.f3)) := hcc3 3 _ rfl; have hx3_4 : w42.cell? ⟨go3, (0 : Int).toNat * 10 + 4, none⟩ = some (.int .i64 ((rd_T34 y138 0).f0.f4)) := hcc3 4 _ rfl; have hx3_5 : w42.cell? ⟨go3, (0 : Int).toNat * 10 + 5, none⟩ = some (.int .i64 ((rd_T34 y138 0).f0.f5)) := hcc3 5 _ rfl; have hx3_6 : w42.cell? ⟨go3, (0 : Int).toNat * 10 + 6, none⟩ = some (.int .i64 ((rd_T34 y138 0).f1)) := hcc3 6 _ rfl; have hx3_7 : w42.cell? ⟨go3, (0 : Int).toNat * 10 + 7, none⟩ = some (.int .i64 ((rd_T34 y138 0).f2)) := hcc3 7 _ rfl; have hx3_8 : w42.cell? ⟨go3, (0 : Int).toNat * 10 + 8, none⟩ = some (.int .i64 ((rd_T34 y138 0).f3)) := hcc3 8 _ rfl; have hx3_9 : w42.cell? ⟨go3, (0 : Int).toNat * 10 + 9, none⟩ = some (.bool ((rd_T34 y138 0).f4)) := hcc3 9 _ rfl; have hf3_0 : w42.frozen? ⟨go3, (0 : Int).toNat * 10, none⟩ = false := hfr3 0; have hf3_1 : w42.frozen? ⟨go3, (0 : Int).toNat * 10 + 1, none⟩ = false := hfr3 1; have hf3_2 : w42.frozen? ⟨go3, (0 : Int).toNat * 10 + 2, none⟩ = false := hfr3 2; have hf3_3 : w42.frozen? ⟨go3, (0 : Int).toNat * 10 + 3, none⟩ = false := hfr3 3; have hf3_4 : w42.frozen? ⟨go3, (0 : Int).toNat * 10 + 4, none⟩ = false := hfr3 4; have hf3_5 : w42.frozen? ⟨go3, (0 : Int).toNat * 10 + 5, none⟩ = false := hfr3 5; have hf3_6 : w42.frozen? ⟨go3, (0 : Int).toNat * 10 + 6, none⟩ = false := hfr3 6; have hf3_7 : w42.frozen? ⟨go3, (0 : Int).toNat * 10 + 7, none⟩ = false := hfr3 7; have hf3_8 : w42.frozen? ⟨go3, (0 : Int).toNat * 10 + 8, none⟩ = false := hfr3 8; have hf3_9 : w42.frozen? ⟨go3, (0 : Int).toNat * 10 + 9, none⟩ = false := hfr3 9; clear hcl3 hcc3 hfr3 hM3; (try rw [show ((0 : Int)).toNat = 0 from rfl] at hx3_0); (try simp only [Nat.reduceMul, Nat.zero_mul, Nat.zero_add, Nat.reduceAdd] at hx3_0); (try rw [show ((0 : Int)).toNat = 0 from rfl] at hf3_0); (try simp only [Nat.reduceMul, Nat.zero_mul, Nat.zero_add, Nat.reduceAdd] at hf3_0); (try rw [show ((0 : Int)).toNat = 0 from rfl] at hx3_1); (try simp only [Nat.reduceMul, Nat.zero_mul, Nat.zero_add, Nat.reduceAdd] at hx3_1); (try rw [show ((0 : Int)).toNat = 0 from rfl] at hf3_1); (try simp only [Nat.reduceMul, Nat.zero_mul, Nat.zero_add, Nat.reduceAdd] at hf3_1); (try rw [show ((0 : Int)).toNat = 0 from rfl] at hx3_2); (try simp only [Nat.reduceMul, Nat.zero_mul, Nat.zero_add, Nat.reduceAdd] at hx3_2); (try rw [show ((0 : Int)).toNat = 0 from rfl] at hf3_2); (try simp only [Nat.reduceMul, Nat.zero_mul, Nat.zero_add, Nat.reduceAdd] at hf3_2); (try rw [show ((0 : Int)).toNat = 0 from rfl] at hx3_3); (try simp only [Nat.reduceMul, Nat.zero_mul, Nat.zero_add, Nat.reduceAdd] at hx3_3); (try rw [show ((0 : Int)).toNat = 0 from rfl] at hf3_3); (try simp only [Nat.reduceMul, Nat.zero_mul, Nat.zero_add, Nat.reduceAdd] at hf3_3); (try rw [show ((0 : Int)).toNat = 0 from rfl] at hx3_4); (try simp only [Nat.reduceMul, Nat.zero_mul, Nat.zero_add, Nat.reduceAdd] at hx3_4); (try rw [show ((0 : Int)).toNat = 0 from rfl] at hf3_4); (try simp only [Nat.reduceMul, Nat.zero_mul, Nat.zero_add, Nat.reduceAdd] at hf3_4); (try rw [show ((0 : Int)).toNat = 0 from rfl] at hx3_5); (try simp only [Nat.reduceMul, Nat.zero_mul, Nat.zero_add, Nat.reduceAdd] at hx3_5); (try rw [show ((0 : Int)).toNat = 0 from rfl] at hf3_5); (try simp only [Nat.reduceMul, Nat.zero_mul, Nat.zero_add, Nat.reduceAdd] at hf3_5); (try rw [show ((0 : Int)).toNat = 0 from rfl] at hx3_6); (try simp only [Nat.reduceMul, Nat.zero_mul, Nat.zero_add, Nat.reduceAdd] at hx3_6); (try rw [show ((0 : Int)).toNat = 0 from rfl] at hf3_6); (try simp only [Nat.reduceMul, Nat.zero_mul, Nat.zero_add, Nat.reduceAdd] at hf3_6); (try rw [show ((0 : Int)).toNat = 0 from rfl] at hx3_7); (try simp only [Nat.reduceMul, Nat.zero_mul, Nat.zero_add, Nat.reduceAdd] at hx3_7); (try rw [show ((0 : Int)).toNat = 0 from rfl] at hf3_7); (try simp only [Nat.reduceMul, Nat.zero_mul, Nat.zero_add, Nat.reduceAdd] at hf3_7); (try rw [show ((0 : Int)).toNat = 0 from rfl] at hx3_8); (try simp only [Nat.reduceMul, Nat.zero_mul, Nat.zero_add, Nat.reduceAdd] at hx3_8); (try rw [show ((0 : Int)).toNat = 0 from rfl] at hf3_8); (try simp only [Nat.reduceMul, Nat.zero_mul, Nat.zero_add, Nat.reduceAdd] at hf3_8); (try rw [show ((0 : Int)).toNat = 0 from rfl] at hx3_9); (try simp only [Nat.reduceMul, Nat.zero_mul, Nat.zero_add, Nat.reduceAdd] at hx3_9); (try rw [show ((0 : Int)).toNat = 0 from rfl] at hf3_9); (try simp only [Nat.reduceMul, Nat.zero_mul, Nat.zero_add, Nat.reduceAdd] at hf3_9); replace p3 := eq_true p3; replace q3 := eq_true q3; have HX43 := Aside0.mk (show Kd.R k34 34 w42 w.heap.size (fun _ => True) (.slice (some ⟨go3, 0, none⟩) y138.length co38) y138 from (by (with_reducible repeat (first | apply Kd.R_alloc | apply Kd.R_drewN | apply Kd.R_drew)); exact HO140.out)); obtain ⟨ce43, hcl43, hM43, hcc43, hfr43⟩ := Kd.R_elem HX43.out z34 (0 : Int) (by omega) (by have h_ : (0 : Int) < ((y138.length : Int) : Int) := of_decide_eq_true (by first | (with_reducible assumption) | assumption); first | exact h_ | (have e_ := (Kd.R_reads' HO140.out).1; omega) | simpa using h_); obtain rfl := k34_openM hM43; have HP43 := Kd.R_seg HX43.out (0 : Int) (by omega) (by have h_ : (0 : Int) < ((y138.length : Int) : Int) := of_decide_eq_true (by first | (with_reducible assumption) | assumption); first | exact h_ | (have e_ := (Kd.R_reads' HO140.out).1; omega) | simpa using h_) (seg := [.int .i64 1]) (j := 4) hcl43 hcc43 (show 5 ≤ 10 from by decide) (x' := (⟨(⟨(rd_T34 y138 0).f0.f0, (rd_T34 y138 0).f0.f1, (rd_T34 y138 0).f0.f2, (rd_T34 y138 0).f0.f3, 1, (rd_T34 y138 0).f0.f5⟩ : S32), (rd_T34 y138 0).f1, (rd_T34 y138 0).f2, (rd_T34 y138 0).f3, (rd_T34 y138 0).f4⟩ : S34)) (k34_mkM _ _ _ (⟨(⟨(rd_T34 y138 0).f0.f0, (rd_T34 y138 0).f0.f1, (rd_T34 y138 0).f0.f2, (rd_T34 y138 0).f0.f3, 1, (rd_T34 y138 0).f0.f5⟩ : S32), (rd_T34 y138 0).f1, (rd_T34 y138 0).f2, (rd_T34 y138 0).f3, (rd_T34 y138 0).f4⟩ : S34) ) (fun _ hk => hk); have hx43_4 := hcc43 4 _ rfl; (try simp only [show (k34).sz = 10 from rfl, Nat.mul_one, Nat.add_zero] at hx43_4); (try rw [show ((0 : Int)).toNat = 0 from rfl] at hx43_4); (try simp only [Nat.reduceMul, Nat.zero_mul, Nat.zero_add, Nat.reduceAdd] at hx43_4); have hf43_4 := hfr43 4; (try simp only [show (k34).sz = 10 from rfl, Nat.mul_one, Nat.add_zero] at hf43_4); (try rw [show ((0 : Int)).toNat = 0 from rfl] at hf43_4); (try simp only [Nat.reduceMul, Nat.zero_mul, Nat.zero_add, Nat.reduceAdd] at hf43_4); clear hcl43 hcc43 hfr43 hM43) | ((with_reducible refine gate_store (t := 3) (p := 18) rfl ?_); refine store_event (t := 3) (p := 18) (v := ?vo_w44) (w1 := (w42.setCell ⟨go3, 4, none⟩ (.int .i64 1))) ?hg ?ho ?hn ?hr ?_; (case ho => rfl); (case hg => rfl); (case hn => rfl); (case hr => first | (go_simp; done) | (go_simp; rfl)); intro w44 hw; have hg : w42.grownBy w44 (some go3) := (by rw [hw]; exact HP43.2); have hp_ : Kd.R k34 34 w44 w.heap.size (fun _ => True) (.slice (some ⟨go3, 0, none⟩) y138.length co38) y146 := (by rw [hw, Ny146.out]; exact HP43.1); clear HP43; have n0_ := Aside0.mk (hp_); have n1_ := Aside0.mk (blk_grown (g := gb145) (o := .cells #[.int .i64 t141, .int .i64 t142, .int .i64 t143] 37 (0, 0)) (by (with_reducible repeat (first | refine blk_drewN ?_ _ | refine blk_drew ?_ | refine blk_alloc ?_ _)); exact BK145.out) hg (Kd.R_ne HO140.out BK145.out (by decide))); have n2_ := Aside0.mk ((by rw [hw]; exact below_set (HB.out) GB3.out : Below w.heap.size w w44)); clear HO140; clear BK145; clear HB; have HO140 := n0_; have BK145 := n1_; have HB := n2_; clear n0_ n1_ n2_; clear hg hw hp_) | ((with_reducible refine gate_callee (f := 19) rfl ?_); refine goesL_ (some 22) rfl rfl Try.func19 (by kernel_rfl) rfl #[.slice (some ⟨go3, 0, none⟩) y146.length co38, .int .i64 0, .agg #[.int .i64 0, .int .i64 1, .int .i64 1], .int .i64 10, .bool false] rfl (by (try simp only [List.map_toArray, List.map_cons, List.map_nil]); first | done | (rw [show y146.length = y138.length from (Kd.R_reads' HO140.out).1.symm] <;> rfl) | rfl | (simp only [List.length_drop, List.length_take]; rfl)) ?_; (with_reducible refine (score_Of.calls k _ _ y146 0 0 1 1 10 false t147 t148 t149 false _ ?side1 ?side2 A4.out).mono ?_); (case side1 => repeat (first | exact (Kd.R_reads' HO140.out).2.2 | (with_reducible refine Kd.C_alloc ?_ _) | (with_reducible refine Kd.C_drewN ?_ _) | (with_reducible refine Kd.C_drew ?_))); (case side2 => rw [show y146.length = y138.length from (Kd.R_reads' HO140.out).1.symm]; exact (Kd.R_reads' HO140.out).2.1); rintro e w45 ⟨rfl, hb⟩; refine ⟨_, rfl, ?_⟩; have n0_ := Aside0.mk (Kd.R_below (by (with_reducible repeat (first | apply Kd.R_alloc | apply Kd.R_drewN | apply Kd.R_drew)); exact HO140.out) hb); have n1_ := Aside0.mk (blk_below (g := gb145) (o := .cells #[.int .i64 t141, .int .i64 t142, .int .i64 t143] 37 (0, 0)) (by (with_reducible repeat (first | refine blk_drewN ?_ _ | refine blk_drew ?_ | refine blk_alloc ?_ _)); exact BK145.out) hb); have n2_ := Aside0.mk (below_step (by repeat (first | (with_reducible first | exact HB.out | apply below_alloc | apply pw_below_drewN | apply below_drew1 | refine below_set ?_ GE145.out) | exact HB.out)) hb); clear HO140; clear BK145; clear HB; have HO140 := n0_; have BK145 := n1_; have HB := n2_; clear n0_ n1_ n2_; (try clear hb); (try clear hb2); (try clear hk); (try clear hi)) | ((with_reducible refine gate_dst (N := 4) rfl ?_); refine box_event ?hg (N := 4) ?hd (cs := #[.int .i64 0, .int .i64 0, .int .i64 0]) (t := 37) ?hr ?_; (case hd => rfl); (case hg => rfl); (case hr => first | (go_simp; done) | (go_simp; rfl)); intro gb151 hg w46 hbox hb; have n0_ := Aside0.mk (Kd.R_below (by (with_reducible repeat (first | apply Kd.R_alloc | apply Kd.R_drewN | apply Kd.R_drew)); exact HO140.out) hb); have n1_ := Aside0.mk (blk_below (g := gb145) (o := .cells #[.int .i64 t141, .int .i64 t142, .int .i64 t143] 37 (0, 0)) (by (with_reducible repeat (first | refine blk_drewN ?_ _ | refine blk_drew ?_ | refine blk_alloc ?_ _)); exact BK145.out) hb); have n2_ := Aside0.mk (below_step (by repeat (first | (with_reducible first | exact HB.out | apply below_alloc | apply pw_below_drewN | apply below_drew1 | refine below_set ?_ GE145.out) | exact HB.out)) hb); have n3_ := Aside0.mk (hbox); have n4_ := Aside0.mk ((by rw [hg]; exact (below_size (by repeat (first | (with_reducible first | exact HB.out | apply below_alloc | apply pw_below_drewN | apply below_drew1 | refine below_set ?_ GE145.out) | exact HB.out))) : w.heap.size ≤ gb151)); have n5_ := Aside0.mk ((by rw [hg]; exact (below_size (by repeat (first | (with_reducible first | exact HB.out | apply below_alloc | apply pw_below_drewN | apply below_drew1 | refine below_set ?_ GE145.out) | exact HB.out))) : w.heap.size ≤ gb151)); have n6_ := Aside0.mk ((by rw [hg]; exact Nat.ne_of_lt (blk_lt (g := gb145) (o := .cells #[.int .i64 t141, .int .i64 t142, .int .i64 t143] 37 (0, 0)) (by (with_reducible repeat (first | refine blk_drewN ?_ _ | refine blk_drew ?_ | refine blk_alloc ?_ _)); exact BK145.out)) : gb145 ≠ gb151)); have n7_ := Aside0.mk ((by rw [hg]; exact Nat.ne_of_gt (blk_lt (g := gb145) (o := .cells #[.int .i64 t141, .int .i64 t142, .int .i64 t143] 37 (0, 0)) (by (with_reducible repeat (first | refine blk_drewN ?_ _ | refine blk_drew ?_ | refine blk_alloc ?_ _)); exact BK145.out)) : gb151 ≠ gb145)); clear HO140; clear BK145; clear HB; have HO140 := n0_; have BK145 := n1_; have HB := n2_; have BK151 := n3_; have GW151 := n4_; have GE151 := n5_; have NB145_151 := n6_; have NB151_145 := n7_; clear n0_ n1_ n2_ n3_ n4_ n5_ n6_ n7_; clear hb hbox hg; have hnb47 := NB151_145.out; have hnc47 := NB145_151.out; have hcz48_0 : w46.cell? ⟨gb151, 0, none⟩ = some (.int .i64 0) := (blk_cell BK151.out 0).trans rfl; have hcz48_1 : w46.cell? ⟨gb151, 1, none⟩ = some (.int .i64 0) := (blk_cell BK151.out 1).trans rfl; have hcz48_2 : w46.cell? ⟨gb151, 2, none⟩ = some (.int .i64 0) := (blk_cell BK151.out 2).trans rfl; have hfz48_0 := blk_frozen BK151.out 0; have hfz48_1 := blk_frozen BK151.out 1; have hfz48_2 := blk_frozen BK151.out 2))
    go_ret
    exact ⟨by first | rfl | (simp [errW_none, errW_some] <;> rfl) | (simp [*, errW_none, errW_some] <;> rfl), by repeat (first | (with_reducible first | exact HB.out | apply below_alloc | apply pw_below_drewN | apply below_drew1 | refine below_set ?_ GE145.out | refine below_set ?_ GE151.out) | exact HB.out)⟩
  ·replace c5 := Bool.eq_false_iff.mpr c5
   subst c5
   have H1 : (some false) = some r := by rw [if_neg (show ¬ (false = true) by decide)] at H; exact H
   clear H
   have H := H1
   clear H1
   obtain rfl := Option.some.inj H
   go_enter Try.func11, Try.ntmps11
   go_wp2_with (first | ((with_reducible refine gate_dst (N := 8) rfl ?_); refine Kd.R_lit k34 _ 34 ?hg (N := 8) ?hd (xs := ([(⟨(⟨(⟨#[]⟩ : ByteArray), (⟨#[]⟩ : ByteArray), 0, 0, 2, 0⟩ : S32), 4, 0, 0, false⟩ : S34)] : List (S34))) (inner := [.string (⟨#[]⟩ : ByteArray), .string (⟨#[]⟩ : ByteArray), .int .i64 0, .int .i64 0, .int .i64 2, .int .i64 0, .int .i64 4, .int .i64 0, .int .i64 0, .bool false]) (ok := fun _ => True) (okp := fun _ => True) ?hr ?hp (fun _ hk => hk) trivial (Below.refl _ _) (Nat.le_refl _) (by simp) ?_; (case hd => rfl); (case hg => rfl); (case hr => first | (go_simp; done) | (go_simp; rfl)); (case hp => exact (Reps.c10 (show Kd.M k34 _ _ _ (⟨(⟨(⟨#[]⟩ : ByteArray), (⟨#[]⟩ : ByteArray), 0, 0, 2, 0⟩ : S32), 4, 0, 0, false⟩ : S34) [.string (⟨#[]⟩ : ByteArray), .string (⟨#[]⟩ : ByteArray), .int .i64 0, .int .i64 0, .int .i64 2, .int .i64 0, .int .i64 4, .int .i64 0, .int .i64 0, .bool false] from (k34_mkM _ _ _ (⟨(⟨(⟨#[]⟩ : ByteArray), (⟨#[]⟩ : ByteArray), 0, 0, 2, 0⟩ : S32), 4, 0, 0, false⟩ : S34) )) (Reps.none _ _))); intro v139 w49 ho50 hb hg_ hnew_; clear hg_ hnew_; (first | rw [← Ny138.out] at ho50 | (simp only [Int.reduceToNat] at ho50; rw [← Ny138.out] at ho50)); have n0_ := Aside0.mk (Kd.R_lower ho50 (below_size (by repeat (first | (with_reducible first | exact HB.out | apply below_alloc | apply pw_below_drewN | apply below_drew1) | exact HB.out)))); have n1_ := Aside0.mk (below_step (by repeat (first | (with_reducible first | exact HB.out | apply below_alloc | apply pw_below_drewN | apply below_drew1) | exact HB.out)) hb); clear HB; have HO140 := n0_; have HB := n1_; clear n0_ n1_; clear hb ho50; obtain ⟨Ao51, co51, eo51⟩ := Kd.R_slice HO140.out; subst eo51) | ((with_reducible refine gate_callee (f := 19) rfl ?_); refine goesL_ (some 12) rfl rfl Try.func19 (by kernel_rfl) rfl #[.slice Ao51 y138.length co51, .int .i64 0, .agg #[.int .i64 0, .int .i64 1, .int .i64 1], .int .i64 10, .bool false] rfl (by (try simp only [List.map_toArray, List.map_cons, List.map_nil]); first | done | rfl | (simp only [List.length_drop, List.length_take]; rfl)) ?_; (with_reducible refine (score_Of.calls k _ _ y138 0 0 1 1 10 false t141 t142 t143 false _ ?side1 ?side2 A1.out).mono ?_); (case side1 => repeat (first | exact (Kd.R_reads' HO140.out).2.2 | (with_reducible refine Kd.C_alloc ?_ _) | (with_reducible refine Kd.C_drewN ?_ _) | (with_reducible refine Kd.C_drew ?_))); (case side2 => exact (Kd.R_reads' HO140.out).2.1); rintro e w52 ⟨rfl, hb⟩; refine ⟨_, rfl, ?_⟩; have n0_ := Aside0.mk (Kd.R_below (by (with_reducible repeat (first | apply Kd.R_alloc | apply Kd.R_drewN | apply Kd.R_drew)); exact HO140.out) hb); have n1_ := Aside0.mk (below_step (by repeat (first | (with_reducible first | exact HB.out | apply below_alloc | apply pw_below_drewN | apply below_drew1) | exact HB.out)) hb); clear HO140; clear HB; have HO140 := n0_; have HB := n1_; clear n0_ n1_; (try clear hb); (try clear hb2); (try clear hk); (try clear hi)) | ((with_reducible refine gate_dst (N := 2) rfl ?_); refine box_event ?hg (N := 2) ?hd (cs := #[.int .i64 0, .int .i64 0, .int .i64 0]) (t := 37) ?hr ?_; (case hd => rfl); (case hg => rfl); (case hr => first | (go_simp; done) | (go_simp; rfl)); intro gb145 hg w53 hbox hb; have n0_ := Aside0.mk (Kd.R_below (by (with_reducible repeat (first | apply Kd.R_alloc | apply Kd.R_drewN | apply Kd.R_drew)); exact HO140.out) hb); have n1_ := Aside0.mk (below_step (by repeat (first | (with_reducible first | exact HB.out | apply below_alloc | apply pw_below_drewN | apply below_drew1) | exact HB.out)) hb); have n2_ := Aside0.mk (hbox); have n3_ := Aside0.mk ((by rw [hg]; exact (below_size (by repeat (first | (with_reducible first | exact HB.out | apply below_alloc | apply pw_below_drewN | apply below_drew1) | exact HB.out))) : w.heap.size ≤ gb145)); have n4_ := Aside0.mk ((by rw [hg]; exact (below_size (by repeat (first | (with_reducible first | exact HB.out | apply below_alloc | apply pw_below_drewN | apply below_drew1) | exact HB.out))) : w.heap.size ≤ gb145)); clear HO140; clear HB; have HO140 := n0_; have HB := n1_; have BK145 := n2_; have GW145 := n3_; have GE145 := n4_; clear n0_ n1_ n2_ n3_ n4_; clear hb hbox hg; have hcz54_0 : w53.cell? ⟨gb145, 0, none⟩ = some (.int .i64 0) := (blk_cell BK145.out 0).trans rfl; have hcz54_1 : w53.cell? ⟨gb145, 1, none⟩ = some (.int .i64 0) := (blk_cell BK145.out 1).trans rfl; have hcz54_2 : w53.cell? ⟨gb145, 2, none⟩ = some (.int .i64 0) := (blk_cell BK145.out 2).trans rfl; have hfz54_0 := blk_frozen BK145.out 0; have hfz54_1 := blk_frozen BK145.out 1; have hfz54_2 := blk_frozen BK145.out 2) | ((with_reducible refine gate_store (t := 37) (p := 2) rfl ?_); refine store_event (t := 37) (p := 2) (v := ?vo_w55) (w1 := (((w53.setCell ⟨gb145, 0, none⟩ (.int .i64 t141)).setCell ⟨gb145, 1, none⟩ (.int .i64 t142)).setCell ⟨gb145, 2, none⟩ (.int .i64 t143))) ?hg ?ho ?hn ?hr ?_; (case ho => rfl); (case hg => rfl); (case hn => rfl); (case hr => first | (go_simp; done) | (go_simp; rfl)); intro w55 hw; have n0_ : Aside0 (Kd.R k34 34 w55 w.heap.size (fun _ => True) (.slice Ao51 y138.length co51) y138) := ⟨(by rw [hw]; exact (by (with_reducible repeat (first | apply Kd.R_alloc | apply Kd.R_drewN | apply Kd.R_drew)); exact Kd.R_mono (Kd.R_far (p := ⟨gb145, 2, none⟩) (Kd.R_far (p := ⟨gb145, 1, none⟩) (Kd.R_far (p := ⟨gb145, 0, none⟩) (Kd.R_types HO140.out BK145.out (by decide)) (fun _ hk => hk.2) (.int .i64 t141)) (fun _ hk => hk.2) (.int .i64 t142)) (fun _ hk => hk.2) (.int .i64 t143)) (fun _ hk => trivial)))⟩; have n1_ : Aside0 (w55.heap[gb145]? = some (.cells #[.int .i64 t141, .int .i64 t142, .int .i64 t143] 37 (0, 0))) := ⟨(by rw [hw]; exact (by (with_reducible repeat (first | refine blk_drewN ?_ _ | refine blk_drew ?_ | refine blk_alloc ?_ _)); refine blk_put (cs := #[.int .i64 t141, .int .i64 t142, .int .i64 0]) ?_ 2 _ rfl; (with_reducible repeat (first | refine blk_drewN ?_ _ | refine blk_drew ?_ | refine blk_alloc ?_ _)); refine blk_put (cs := #[.int .i64 t141, .int .i64 0, .int .i64 0]) ?_ 1 _ rfl; (with_reducible repeat (first | refine blk_drewN ?_ _ | refine blk_drew ?_ | refine blk_alloc ?_ _)); refine blk_put (cs := #[.int .i64 0, .int .i64 0, .int .i64 0]) ?_ 0 _ rfl; (with_reducible repeat (first | refine blk_drewN ?_ _ | refine blk_drew ?_ | refine blk_alloc ?_ _)); exact BK145.out))⟩; have n2_ : Aside0 (Below w.heap.size w w55) := ⟨(by rw [hw]; exact (by repeat (first | (with_reducible first | exact HB.out | apply below_alloc | apply pw_below_drewN | apply below_drew1 | refine below_set ?_ GE145.out) | exact HB.out)))⟩; clear hw; clear HO140; clear BK145; clear HB; have HO140 := n0_; have BK145 := n1_; have HB := n2_; clear n0_ n1_ n2_; have p3 : 0 ≤ (0 : Int) := (by omega); have q3 : (0 : Int) < ((y138.length : Int) : Int) := of_decide_eq_true (by first | (with_reducible assumption) | assumption); have qi3 : (0 < y138.length) = True := eq_true (by omega); obtain ⟨go3, co3, eo3, gb3, gl3, cl3, HG3⟩ := Kd.R_form HO140.out (by omega); (first | cases eo3 | (injection eo3 with ea_ en_ ec_; (first | subst ea_ | (injection ea_ with ea_; subst ea_)); subst ec_; clear en_)); have GB3 := Aside0.mk gb3; have GG3 := Aside0.mk HG3; clear gb3 gl3 HG3; obtain ⟨ce3, hcl3, hM3, hcc3, hfr3⟩ := Kd.R_elem HO140.out z34 (0 : Int) p3 q3; obtain rfl := k34_openM hM3; have hx3_0 : w55.cell? ⟨go3, (0 : Int).toNat * 10, none⟩ = some (.string ((rd_T34 y138 0).f0.f0)) := hcc3 0 _ rfl; have hx3_1 : w55.cell? ⟨go3, (0 : Int).toNat * 10 + 1, none⟩ = some (.string ((rd_T34 y138 0).f0.f1)) := hcc3 1 _ rfl; have hx3_2 : w55.cell? ⟨go3, (0 : Int).toNat * 10 + 2, none⟩ = some (.int .i64 ((rd_T34 y138 0).f0.f2)) := hcc3 2 _ rfl; have hx3_3 : w55.cell? ⟨go3, (0 : Int).toNat * 10 + 3, none⟩ = some (.int .i64 ((rd_T34 y138 0).f0.f3)) := hcc3 3 _ rfl; have hx3_4 : w55.cell? ⟨go3, (0 : Int).toNat * 10 + 4, none⟩ = some (.int .i64 ((rd_T34 y138 0).f0.f4)) := hcc3 4 _ rfl; have hx3_5 : w55.cell? ⟨go3, (0 : Int).toNat * 10 + 5, none⟩ = some (.int .i64 ((rd_T34 y138 0).f0.f5)) := hcc3 5 _ rfl; have hx3_6 : w55.cell? ⟨go3, (0 : Int).toNat * 10 + 6, none⟩ = some (.int .i64 ((rd_T34 y138 0).f1)) := hcc3 6 _ rfl; have hx3_7 : w55.cell? ⟨go3, (0 : Int).toNat * 10 + 7, none⟩ = some (.int .i64 ((rd_T34 y138 0).f2)) := hcc3 7 _ rfl; have hx3_8 : w55.cell? ⟨go3, (0 : Int).toNat * 10 + 8, none⟩ = some (.int .i64 ((rd_T34 y138 0).f3)) := hcc3 8 _ rfl; have hx3_9 : w55.cell? ⟨go3, (0 : Int).toNat * 10 + 9, none⟩ = some (.bool ((rd_T34 y138 0).f4)) := hcc3 9 _ rfl; have hf3_0 : w55.frozen? ⟨go3, (0 : Int).toNat * 10, none⟩ = false := hfr3 0; have hf3_1 : w55.frozen? ⟨go3, (0 : Int).toNat * 10 + 1, none⟩ = false := hfr3 1; have hf3_2 : w55.frozen? ⟨go3, (0 : Int).toNat * 10 + 2, none⟩ = false := hfr3 2; have hf3_3 : w55.frozen? ⟨go3, (0 : Int).toNat * 10 + 3, none⟩ = false := hfr3 3; have hf3_4 : w55.frozen? ⟨go3, (0 : Int).toNat * 10 + 4, none⟩ = false := hfr3 4; have hf3_5 : w55.frozen? ⟨go3, (0 : Int).toNat * 10 + 5, none⟩ = false := hfr3 5; have hf3_6 : w55.frozen? ⟨go3, (0 : Int).toNat * 10 + 6, none⟩ = false := hfr3 6; have hf3_7 : w55.frozen? ⟨go3, (0 : Int).toNat * 10 + 7, none⟩ = false := hfr3 7; have hf3_8 : w55.frozen? ⟨go3, (0 : Int).toNat * 10 + 8, none⟩ = false := hfr3 8; have hf3_9 : w55.frozen? ⟨go3, (0 : Int).toNat * 10 + 9, none⟩ = false := hfr3 9; clear hcl3 hcc3 hfr3 hM3; (try rw [show ((0 : Int)).toNat = 0 from rfl] at hx3_0); (try simp only [Nat.reduceMul, Nat.zero_mul, Nat.zero_add, Nat.reduceAdd] at hx3_0); (try rw [show ((0 : Int)).toNat = 0 from rfl] at hf3_0); (try simp only [Nat.reduceMul, Nat.zero_mul, Nat.zero_add, Nat.reduceAdd] at hf3_0); (try rw [show ((0 : Int)).toNat = 0 from rfl] at hx3_1); (try simp only [Nat.reduceMul, Nat.zero_mul, Nat.zero_add, Nat.reduceAdd] at hx3_1); (try rw [show ((0 : Int)).toNat = 0 from rfl] at hf3_1); (try simp only [Nat.reduceMul, Nat.zero_mul, Nat.zero_add, Nat.reduceAdd] at hf3_1); (try rw [show ((0 : Int)).toNat = 0 from rfl] at hx3_2); (try simp only [Nat.reduceMul, Nat.zero_mul, Nat.zero_add, Nat.reduceAdd] at hx3_2); (try rw [show ((0 : Int)).toNat = 0 from rfl] at hf3_2); (try simp only [Nat.reduceMul, Nat.zero_mul, Nat.zero_add, Nat.reduceAdd] at hf3_2); (try rw [show ((0 : Int)).toNat = 0 from rfl] at hx3_3); (try simp only [Nat.reduceMul, Nat.zero_mul, Nat.zero_add, Nat.reduceAdd] at hx3_3); (try rw [show ((0 : Int)).toNat = 0 from rfl] at hf3_3); (try simp only [Nat.reduceMul, Nat.zero_mul, Nat.zero_add, Nat.reduceAdd] at hf3_3); (try rw [show ((0 : Int)).toNat = 0 from rfl] at hx3_4); (try simp only [Nat.reduceMul, Nat.zero_mul, Nat.zero_add, Nat.reduceAdd] at hx3_4); (try rw [show ((0 : Int)).toNat = 0 from rfl] at hf3_4); (try simp only [Nat.reduceMul, Nat.zero_mul, Nat.zero_add, Nat.reduceAdd] at hf3_4); (try rw [show ((0 : Int)).toNat = 0 from rfl] at hx3_5); (try simp only [Nat.reduceMul, Nat.zero_mul, Nat.zero_add, Nat.reduceAdd] at hx3_5); (try rw [show ((0 : Int)).toNat = 0 from rfl] at hf3_5); (try simp only [Nat.reduceMul, Nat.zero_mul, Nat.zero_add, Nat.reduceAdd] at hf3_5); (try rw [show ((0 : Int)).toNat = 0 from rfl] at hx3_6); (try simp only [Nat.reduceMul, Nat.zero_mul, Nat.zero_add, Nat.reduceAdd] at hx3_6); (try rw [show ((0 : Int)).toNat = 0 from rfl] at hf3_6); (try simp only [Nat.reduceMul, Nat.zero_mul, Nat.zero_add, Nat.reduceAdd] at hf3_6); (try rw [show ((0 : Int)).toNat = 0 from rfl] at hx3_7); (try simp only [Nat.reduceMul, Nat.zero_mul, Nat.zero_add, Nat.reduceAdd] at hx3_7); (try rw [show ((0 : Int)).toNat = 0 from rfl] at hf3_7); (try simp only [Nat.reduceMul, Nat.zero_mul, Nat.zero_add, Nat.reduceAdd] at hf3_7); (try rw [show ((0 : Int)).toNat = 0 from rfl] at hx3_8); (try simp only [Nat.reduceMul, Nat.zero_mul, Nat.zero_add, Nat.reduceAdd] at hx3_8); (try rw [show ((0 : Int)).toNat = 0 from rfl] at hf3_8); (try simp only [Nat.reduceMul, Nat.zero_mul, Nat.zero_add, Nat.reduceAdd] at hf3_8); (try rw [show ((0 : Int)).toNat = 0 from rfl] at hx3_9); (try simp only [Nat.reduceMul, Nat.zero_mul, Nat.zero_add, Nat.reduceAdd] at hx3_9); (try rw [show ((0 : Int)).toNat = 0 from rfl] at hf3_9); (try simp only [Nat.reduceMul, Nat.zero_mul, Nat.zero_add, Nat.reduceAdd] at hf3_9); replace p3 := eq_true p3; replace q3 := eq_true q3; have HX56 := Aside0.mk (show Kd.R k34 34 w55 w.heap.size (fun _ => True) (.slice (some ⟨go3, 0, none⟩) y138.length co51) y138 from (by (with_reducible repeat (first | apply Kd.R_alloc | apply Kd.R_drewN | apply Kd.R_drew)); exact HO140.out)); obtain ⟨ce56, hcl56, hM56, hcc56, hfr56⟩ := Kd.R_elem HX56.out z34 (0 : Int) (by omega) (by have h_ : (0 : Int) < ((y138.length : Int) : Int) := of_decide_eq_true (by first | (with_reducible assumption) | assumption); first | exact h_ | (have e_ := (Kd.R_reads' HO140.out).1; omega) | simpa using h_); obtain rfl := k34_openM hM56; have HP56 := Kd.R_seg HX56.out (0 : Int) (by omega) (by have h_ : (0 : Int) < ((y138.length : Int) : Int) := of_decide_eq_true (by first | (with_reducible assumption) | assumption); first | exact h_ | (have e_ := (Kd.R_reads' HO140.out).1; omega) | simpa using h_) (seg := [.int .i64 1]) (j := 4) hcl56 hcc56 (show 5 ≤ 10 from by decide) (x' := (⟨(⟨(rd_T34 y138 0).f0.f0, (rd_T34 y138 0).f0.f1, (rd_T34 y138 0).f0.f2, (rd_T34 y138 0).f0.f3, 1, (rd_T34 y138 0).f0.f5⟩ : S32), (rd_T34 y138 0).f1, (rd_T34 y138 0).f2, (rd_T34 y138 0).f3, (rd_T34 y138 0).f4⟩ : S34)) (k34_mkM _ _ _ (⟨(⟨(rd_T34 y138 0).f0.f0, (rd_T34 y138 0).f0.f1, (rd_T34 y138 0).f0.f2, (rd_T34 y138 0).f0.f3, 1, (rd_T34 y138 0).f0.f5⟩ : S32), (rd_T34 y138 0).f1, (rd_T34 y138 0).f2, (rd_T34 y138 0).f3, (rd_T34 y138 0).f4⟩ : S34) ) (fun _ hk => hk); have hx56_4 := hcc56 4 _ rfl; (try simp only [show (k34).sz = 10 from rfl, Nat.mul_one, Nat.add_zero] at hx56_4); (try rw [show ((0 : Int)).toNat = 0 from rfl] at hx56_4); (try simp only [Nat.reduceMul, Nat.zero_mul, Nat.zero_add, Nat.reduceAdd] at hx56_4); have hf56_4 := hfr56 4; (try simp only [show (k34).sz = 10 from rfl, Nat.mul_one, Nat.add_zero] at hf56_4); (try rw [show ((0 : Int)).toNat = 0 from rfl] at hf56_4); (try simp only [Nat.reduceMul, Nat.zero_mul, Nat.zero_add, Nat.reduceAdd] at hf56_4); clear hcl56 hcc56 hfr56 hM56) | ((with_reducible refine gate_store (t := 3) (p := 18) rfl ?_); refine store_event (t := 3) (p := 18) (v := ?vo_w57) (w1 := (w55.setCell ⟨go3, 4, none⟩ (.int .i64 1))) ?hg ?ho ?hn ?hr ?_; (case ho => rfl); (case hg => rfl); (case hn => rfl); (case hr => first | (go_simp; done) | (go_simp; rfl)); intro w57 hw; have hg : w55.grownBy w57 (some go3) := (by rw [hw]; exact HP56.2); have hp_ : Kd.R k34 34 w57 w.heap.size (fun _ => True) (.slice (some ⟨go3, 0, none⟩) y138.length co51) y146 := (by rw [hw, Ny146.out]; exact HP56.1); clear HP56; have n0_ := Aside0.mk (hp_); have n1_ := Aside0.mk (blk_grown (g := gb145) (o := .cells #[.int .i64 t141, .int .i64 t142, .int .i64 t143] 37 (0, 0)) (by (with_reducible repeat (first | refine blk_drewN ?_ _ | refine blk_drew ?_ | refine blk_alloc ?_ _)); exact BK145.out) hg (Kd.R_ne HO140.out BK145.out (by decide))); have n2_ := Aside0.mk ((by rw [hw]; exact below_set (HB.out) GB3.out : Below w.heap.size w w57)); clear HO140; clear BK145; clear HB; have HO140 := n0_; have BK145 := n1_; have HB := n2_; clear n0_ n1_ n2_; clear hg hw hp_) | ((with_reducible refine gate_callee (f := 19) rfl ?_); refine goesL_ (some 22) rfl rfl Try.func19 (by kernel_rfl) rfl #[.slice (some ⟨go3, 0, none⟩) y146.length co51, .int .i64 0, .agg #[.int .i64 0, .int .i64 1, .int .i64 1], .int .i64 10, .bool false] rfl (by (try simp only [List.map_toArray, List.map_cons, List.map_nil]); first | done | (rw [show y146.length = y138.length from (Kd.R_reads' HO140.out).1.symm] <;> rfl) | rfl | (simp only [List.length_drop, List.length_take]; rfl)) ?_; (with_reducible refine (score_Of.calls k _ _ y146 0 0 1 1 10 false t147 t148 t149 t150 _ ?side1 ?side2 A4.out).mono ?_); (case side1 => repeat (first | exact (Kd.R_reads' HO140.out).2.2 | (with_reducible refine Kd.C_alloc ?_ _) | (with_reducible refine Kd.C_drewN ?_ _) | (with_reducible refine Kd.C_drew ?_))); (case side2 => rw [show y146.length = y138.length from (Kd.R_reads' HO140.out).1.symm]; exact (Kd.R_reads' HO140.out).2.1); rintro e w58 ⟨rfl, hb⟩; refine ⟨_, rfl, ?_⟩; have n0_ := Aside0.mk (Kd.R_below (by (with_reducible repeat (first | apply Kd.R_alloc | apply Kd.R_drewN | apply Kd.R_drew)); exact HO140.out) hb); have n1_ := Aside0.mk (blk_below (g := gb145) (o := .cells #[.int .i64 t141, .int .i64 t142, .int .i64 t143] 37 (0, 0)) (by (with_reducible repeat (first | refine blk_drewN ?_ _ | refine blk_drew ?_ | refine blk_alloc ?_ _)); exact BK145.out) hb); have n2_ := Aside0.mk (below_step (by repeat (first | (with_reducible first | exact HB.out | apply below_alloc | apply pw_below_drewN | apply below_drew1 | refine below_set ?_ GE145.out) | exact HB.out)) hb); clear HO140; clear BK145; clear HB; have HO140 := n0_; have BK145 := n1_; have HB := n2_; clear n0_ n1_ n2_; (try clear hb); (try clear hb2); (try clear hk); (try clear hi)) | ((with_reducible refine gate_dst (N := 4) rfl ?_); refine box_event ?hg (N := 4) ?hd (cs := #[.int .i64 0, .int .i64 0, .int .i64 0]) (t := 37) ?hr ?_; (case hd => rfl); (case hg => rfl); (case hr => first | (go_simp; done) | (go_simp; rfl)); intro gb151 hg w59 hbox hb; have n0_ := Aside0.mk (Kd.R_below (by (with_reducible repeat (first | apply Kd.R_alloc | apply Kd.R_drewN | apply Kd.R_drew)); exact HO140.out) hb); have n1_ := Aside0.mk (blk_below (g := gb145) (o := .cells #[.int .i64 t141, .int .i64 t142, .int .i64 t143] 37 (0, 0)) (by (with_reducible repeat (first | refine blk_drewN ?_ _ | refine blk_drew ?_ | refine blk_alloc ?_ _)); exact BK145.out) hb); have n2_ := Aside0.mk (below_step (by repeat (first | (with_reducible first | exact HB.out | apply below_alloc | apply pw_below_drewN | apply below_drew1 | refine below_set ?_ GE145.out) | exact HB.out)) hb); have n3_ := Aside0.mk (hbox); have n4_ := Aside0.mk ((by rw [hg]; exact (below_size (by repeat (first | (with_reducible first | exact HB.out | apply below_alloc | apply pw_below_drewN | apply below_drew1 | refine below_set ?_ GE145.out) | exact HB.out))) : w.heap.size ≤ gb151)); have n5_ := Aside0.mk ((by rw [hg]; exact (below_size (by repeat (first | (with_reducible first | exact HB.out | apply below_alloc | apply pw_below_drewN | apply below_drew1 | refine below_set ?_ GE145.out) | exact HB.out))) : w.heap.size ≤ gb151)); have n6_ := Aside0.mk ((by rw [hg]; exact Nat.ne_of_lt (blk_lt (g := gb145) (o := .cells #[.int .i64 t141, .int .i64 t142, .int .i64 t143] 37 (0, 0)) (by (with_reducible repeat (first | refine blk_drewN ?_ _ | refine blk_drew ?_ | refine blk_alloc ?_ _)); exact BK145.out)) : gb145 ≠ gb151)); have n7_ := Aside0.mk ((by rw [hg]; exact Nat.ne_of_gt (blk_lt (g := gb145) (o := .cells #[.int .i64 t141, .int .i64 t142, .int .i64 t143] 37 (0, 0)) (by (with_reducible repeat (first | refine blk_drewN ?_ _ | refine blk_drew ?_ | refine blk_alloc ?_ _)); exact BK145.out)) : gb151 ≠ gb145)); clear HO140; clear BK145; clear HB; have HO140 := n0_; have BK145 := n1_; have HB := n2_; have BK151 := n3_; have GW151 := n4_; have GE151 := n5_; have NB145_151 := n6_; have NB151_145 := n7_; clear n0_ n1_ n2_ n3_ n4_ n5_ n6_ n7_; clear hb hbox hg; have hnb60 := NB151_145.out; have hnc60 := NB145_151.out; have hcz61_0 : w59.cell? ⟨gb151, 0, none⟩ = some (.int .i64 0) := (blk_cell BK151.out 0).trans rfl; have hcz61_1 : w59.cell? ⟨gb151, 1, none⟩ = some (.int .i64 0) := (blk_cell BK151.out 1).trans rfl; have hcz61_2 : w59.cell? ⟨gb151, 2, none⟩ = some (.int .i64 0) := (blk_cell BK151.out 2).trans rfl; have hfz61_0 := blk_frozen BK151.out 0; have hfz61_1 := blk_frozen BK151.out 1; have hfz61_2 := blk_frozen BK151.out 2))
   go_ret
   exact ⟨by first | rfl | (simp [errW_none, errW_some] <;> rfl) | (simp [*, errW_none, errW_some] <;> rfl), by repeat (first | (with_reducible first | exact HB.out | apply below_alloc | apply pw_below_drewN | apply below_drew1 | refine below_set ?_ GE145.out | refine below_set ?_ GE151.out) | exact HB.out)⟩
 ·rw [if_neg c2] at H
  exact absurd H (by simp)

/-- A state of type 58 at block g of W; what its slices lead to came in by w0. -/
def IsS58 (w0 W : World) (g : Nat) (f0 : List Int) (f1 : Int) : Prop := ∃ A0 c0, W.heap[g]? = some (.cells #[.slice A0 f0.length c0, .int .i64 f1] 58 (0, 0)) ∧ w0.heap.size ≤ g ∧ Kd.C (Kd.int .u8) w0 A0 f0.length f0
theorem IsS58.grown {w0 W : World} {g : Nat} {f0 : List Int} {f1 : Int} {W1 : World} {row : Option Nat} (h : IsS58 w0 W g f0 f1) (hw : W.grownBy W1 row) (hne : some g ≠ row) : IsS58 w0 W1 g f0 f1 := by
 obtain ⟨A0, c0, hb, hg, hr0⟩ := h
 exact ⟨A0, c0, blk_grown hb hw hne, hg, hr0⟩
theorem IsS58.own_neN {w0 W : World} {g : Nat} {f0 : List Int} {f1 : Int} {α : Type} {d : Kd α} {e : Nat} {base : Nat} {ok : Nat → Prop} {v : Value} {xs : List α} (h : IsS58 w0 W g f0 f1) (ho : Kd.N d e W base ok v xs) (ht : e ≠ 58) : some g ≠ v.ownBlock := by
 obtain ⟨A0, c0, hb, hg, hr0⟩ := h
 exact Kd.N_ne ho hb ht
theorem IsS58.fresh {w0 W : World} {g : Nat} {f0 : List Int} {f1 : Int} (h : IsS58 w0 W g f0 f1) : ∀ k, W.heap.size ≤ k → k ≠ g := by
 obtain ⟨A0, c0, hb, hg, hr0⟩ := h
 exact Kd.freshB hb
theorem IsS58.kept {w0 W : World} {g : Nat} {f0 : List Int} {f1 : Int} {W1 : World} {S : Nat → Prop} (h : IsS58 w0 W g f0 f1) (hk : Kept W W1 S) (hne : ¬ S g) : IsS58 w0 W1 g f0 f1 := by
 obtain ⟨A0, c0, hb, hg, hr0⟩ := h
 exact ⟨A0, c0, blk_kept hb hk hne, hg, hr0⟩
theorem IsS58.below {w0 W : World} {g : Nat} {f0 : List Int} {f1 : Int} {W1 : World} (h : IsS58 w0 W g f0 f1) (hw : Below W.heap.size W W1) : IsS58 w0 W1 g f0 f1 := h.grown (grown_of_below hw none) (by simp)
theorem IsS58.alloc {w0 W : World} {g : Nat} {f0 : List Int} {f1 : Int} (h : IsS58 w0 W g f0 f1) (o : Obj) : IsS58 w0 (W.alloc o) g f0 f1 := h.below (below_alloc (Below.refl _ _) o)
theorem IsS58.drewN {w0 W : World} {g : Nat} {f0 : List Int} {f1 : Int} (h : IsS58 w0 W g f0 f1) (m : Nat) : IsS58 w0 (W.drewN m) g f0 f1 := h
theorem IsS58.drew {w0 W : World} {g : Nat} {f0 : List Int} {f1 : Int} (h : IsS58 w0 W g f0 f1) : IsS58 w0 W.drew g f0 f1 := h
theorem IsS58.at_ {w0 W : World} {g : Nat} {f0 : List Int} {f1 : Int} {w' : World} {m : Nat} (hq : W.drewN m = w') (h : IsS58 w0 W g f0 f1) : IsS58 w0 w' g f0 f1 := by subst hq; exact IsS58.drewN h m
theorem IsS58.apart {w0 W : World} {g : Nat} {f0 : List Int} {f1 : Int} {α : Type} {d : Kd α} {e : Nat} {base : Nat} {ok : Nat → Prop} {v : Value} {xs : List α} (h : IsS58 w0 W g f0 f1) (ho : d.R e W base ok v xs) (ht : ∀ q, q ∈ e :: d.E → q ≠ 58) : d.R e W base (fun k => ok k ∧ k ≠ g) v xs := by
 obtain ⟨A0, c0, hb, hg, hr0⟩ := h
 exact Kd.R_types ho hb ht
theorem IsS58.own_ne {w0 W : World} {g : Nat} {f0 : List Int} {f1 : Int} {α : Type} {d : Kd α} {e : Nat} {base : Nat} {ok : Nat → Prop} {v : Value} {xs : List α} (h : IsS58 w0 W g f0 f1) (ho : d.R e W base ok v xs) (ht : e ≠ 58) : some g ≠ v.ownBlock := by
 obtain ⟨A0, c0, hb, hg, hr0⟩ := h
 exact Kd.R_ne ho hb ht
theorem IsS58.apartQ {w0 W : World} {g : Nat} {f0 : List Int} {f1 : Int} {α : Type} {d : Kd α} {e : Nat} {base : Nat} {ok : Nat → Prop} {v : Value} {xs : List α} (h : IsS58 w0 W g f0 f1) (ho : d.Q e W base ok v xs) (ht : ∀ q, q ∈ e :: d.E → q ≠ 58) : d.Q e W base (fun k => ok k ∧ k ≠ g) v xs := by
 obtain ⟨A0, c0, hb, hg, hr0⟩ := h
 exact Kd.Q_types ho hb ht
theorem IsS58.own_neQ {w0 W : World} {g : Nat} {f0 : List Int} {f1 : Int} {α : Type} {d : Kd α} {e : Nat} {base : Nat} {ok : Nat → Prop} {v : Value} {xs : List α} (h : IsS58 w0 W g f0 f1) (ho : d.Q e W base ok v xs) (ht : e ≠ 58) : some g ≠ v.ownBlock := by
 obtain ⟨A0, c0, hb, hg, hr0⟩ := h
 exact Kd.Q_ne ho hb ht
theorem IsS58.apartS {w0 W : World} {g : Nat} {f0 : List Int} {f1 : Int} {α : Type} {d : Kd α} {e : Nat} {base : Nat} {ok : Nat → Prop} {v : Value} {xs : List α} (h : IsS58 w0 W g f0 f1) (ho : d.S e W base ok v xs) (ht : ∀ q, q ∈ e :: d.E → q ≠ 58) : d.S e W base (fun k => ok k ∧ k ≠ g) v xs := by
 obtain ⟨A0, c0, hb, hg, hr0⟩ := h
 exact Kd.S_types ho hb ht
theorem IsS58.own_neS {w0 W : World} {g : Nat} {f0 : List Int} {f1 : Int} {α : Type} {d : Kd α} {e : Nat} {base : Nat} {ok : Nat → Prop} {v : Value} {xs : List α} (h : IsS58 w0 W g f0 f1) (ho : d.S e W base ok v xs) (ht : e ≠ 58) : some g ≠ v.ownBlock := by
 obtain ⟨A0, c0, hb, hg, hr0⟩ := h
 exact Kd.S_ne ho hb ht
theorem IsS58.lt {w0 W : World} {g : Nat} {f0 : List Int} {f1 : Int} (h : IsS58 w0 W g f0 f1) : g < W.heap.size := by
 obtain ⟨A0, c0, hb, hg, hr0⟩ := h
 exact blk_lt hb
theorem IsS58.ge {w0 W : World} {g : Nat} {f0 : List Int} {f1 : Int} (h : IsS58 w0 W g f0 f1) : w0.heap.size ≤ g := by
 obtain ⟨A0, c0, hb, hg, hr0⟩ := h
 exact hg
theorem IsS58.ne_blk {w0 W : World} {g : Nat} {f0 : List Int} {f1 : Int} {a : Nat} {cs : Array Value} {t : TypeId} {fr : Nat × Nat} (h : IsS58 w0 W g f0 f1) (hb2 : W.heap[a]? = some (.cells cs t fr)) (ht : t ≠ 58) : g ≠ a := by
 obtain ⟨A0, c0, hb, hg, hr0⟩ := h
 rintro rfl
 rw [hb] at hb2
 injection hb2 with hb2
 injection hb2 with _ ht2
 exact ht ht2.symm
theorem IsS58.far {w0 W : World} {g : Nat} {f0 : List Int} {f1 : Int} {p : Addr} (h : IsS58 w0 W g f0 f1) (hne : g ≠ p.block) (u : Value) : IsS58 w0 (W.setCell p u) g f0 f1 := by
 obtain ⟨A0, c0, hb, hg, hr0⟩ := h
 exact ⟨A0, c0, blk_far hb hne u, hg, hr0⟩
theorem cellS58_0 {W : World} {g : Nat} {A0 : Option Addr} {c0 : Nat} {f0 : List Int} {f1 : Int} (h : W.heap[g]? = some (.cells #[.slice A0 f0.length c0, .int .i64 f1] 58 (0, 0))) : W.cell? ⟨g, 0, none⟩ = some (.slice A0 f0.length c0) := (blk_cell h 0).trans rfl
theorem cellS58_1 {W : World} {g : Nat} {A0 : Option Addr} {c0 : Nat} {f0 : List Int} {f1 : Int} (h : W.heap[g]? = some (.cells #[.slice A0 f0.length c0, .int .i64 f1] 58 (0, 0))) : W.cell? ⟨g, 1, none⟩ = some (.int .i64 f1) := (blk_cell h 1).trans rfl
theorem IsS58.set_1 {w0 W : World} {g : Nat} {f0 : List Int} {f1 : Int} (h : IsS58 w0 W g f0 f1) (x : Int) : IsS58 w0 (W.setCell ⟨g, 1, none⟩ (.int .i64 x)) g f0 x := by
 obtain ⟨A0, c0, hb, hg, hr0⟩ := h
 exact ⟨A0, c0, by simpa using blk_set hb 1 (.int .i64 x), hg, hr0⟩
theorem IsS58.new (w0 W : World) (A0 : Option Addr) (c0 : Nat) (f0 : List Int) (f1 : Int) (hB : Below w0.heap.size w0 W) (hr0 : Kd.C (Kd.int .u8) w0 A0 f0.length f0) : IsS58 w0 (W.alloc (.cells #[.slice A0 f0.length c0, .int .i64 f1] 58)) W.heap.size f0 f1 := ⟨A0, c0, by simpa using heap_alloc_new W _, hB.size, hr0⟩

/-! ### flagstonedata_Source_More: function 25 -/
def flagstonedata_Source_More.f (s0_0 : List Int) (s0_1 : Int) : Option (Bool × Int) := some (decide (s0_1 < (s0_0.length : Int)), s0_1)
set_option maxHeartbeats 8000000 in
set_option maxRecDepth 100000 in
theorem flagstonedata_Source_More.calls (g : Nat) (s0_0 : List Int) (s0_1 : Int) (r1 : Bool) (r2 : Int) (w0 w : World) (hI : IsS58 w0 w g s0_0 s0_1) (hB : Below w0.heap.size w0 w) (h : flagstonedata_Source_More.f s0_0 s0_1 = some (r1, r2)) :
  Calls Try.prog 25 #[.pointer (some ⟨g, 0, none⟩)] w fun e w' => e = .returned (.bool r1) ∧ IsS58 w0 w' g s0_0 r2 ∧ Below w0.heap.size w0 w' ∧ KeepBut w w' g none := by
 have HI0 := Aside0.mk hI
 have HK := Aside0.mk (KeepBut.refl w g none)
 have HL := Aside0.mk hB.size
 clear hI
 have HW0 := Aside0.mk hB.size
 have HB := Aside0.mk hB
 clear hB
 have H : (some (decide (s0_1 < (s0_0.length : Int)), s0_1)) = some (r1, r2) := h
 clear h
 simp only [Option.some.injEq, Prod.mk.injEq] at H
 obtain ⟨rfl, rfl⟩ := H
 obtain ⟨ASz2_0, cSz2_0, HGz2, hgz2, HSz2_0⟩ := HI0.out
 have hcz2_0 := cellS58_0 HGz2
 have hcz2_1 := cellS58_1 HGz2
 have hfz2_1 := blk_frozen HGz2 1
 clear HGz2 hgz2
 go_enter Try.func25, Try.ntmps25
 go_wp2
 repeat (go_quiet (fail); try go_wp2)
 go_ret
 exact ⟨by first | rfl | (simp [errW_none, errW_some] <;> rfl) | (simp [*, errW_none, errW_some] <;> rfl), by repeat (first | (with_reducible first | exact HI0.out | apply IsS58.alloc | apply IsS58.drewN | apply IsS58.drew | apply IsS58.set_1) | exact HI0.out), by repeat (first | (with_reducible first | exact HB.out | apply below_alloc | apply pw_below_drewN | apply below_drew1 | refine below_set ?_ (IsS58.ge HI0.out)) | exact HB.out), by repeat (first | (with_reducible first | exact HK.out | apply KeepBut.set_ | apply keep_drewN | apply keep_drew | apply keep_alloc) | exact HK.out)⟩

/-! ### flagstonedata_Ids: function 35 -/
def flagstonedata_Ids.f  : Option (List ByteArray) := some (([(⟨#[97, 110, 110]⟩ : ByteArray), (⟨#[98, 111, 98]⟩ : ByteArray), (⟨#[99, 97, 116]⟩ : ByteArray), (⟨#[100, 97, 110]⟩ : ByteArray), (⟨#[101, 118, 101]⟩ : ByteArray), (⟨#[102, 97, 121]⟩ : ByteArray)] : List ByteArray))
set_option maxHeartbeats 8000000 in
set_option maxRecDepth 100000 in
theorem flagstonedata_Ids.calls  (r : List ByteArray) (w : World) (h : flagstonedata_Ids.f  = some r) :
  Calls Try.prog 35 #[] w fun e w' => ∃ v0_ : Value, e = .returned (v0_) ∧ Kd.R Kd.string 9 w' w.heap.size (fun _ => True) v0_ r ∧ Below w.heap.size w w' := by
 have HB := Aside0.mk (Below.refl w.heap.size w)
 have H : (some (([(⟨#[97, 110, 110]⟩ : ByteArray), (⟨#[98, 111, 98]⟩ : ByteArray), (⟨#[99, 97, 116]⟩ : ByteArray), (⟨#[100, 97, 110]⟩ : ByteArray), (⟨#[101, 118, 101]⟩ : ByteArray), (⟨#[102, 97, 121]⟩ : ByteArray)] : List ByteArray))) = some r := h
 clear h
 obtain ⟨y152, hy152⟩ : ∃ y_ : List ByteArray, y_ = (([(⟨#[97, 110, 110]⟩ : ByteArray), (⟨#[98, 111, 98]⟩ : ByteArray), (⟨#[99, 97, 116]⟩ : ByteArray), (⟨#[100, 97, 110]⟩ : ByteArray), (⟨#[101, 118, 101]⟩ : ByteArray), (⟨#[102, 97, 121]⟩ : ByteArray)] : List ByteArray)) := ⟨_, rfl⟩
 replace H : (some y152) = some r := by first | (rw [hy152]; with_reducible exact H) | (have H2_ := (Option.bind_some _ _).symm.trans H; rw [hy152]; with_reducible exact H2_) | (have H2_ := (Option.bind_some _ _).symm.trans H; with_reducible exact H2_) | with_reducible exact H | (rw [hy152]; exact H) | exact H
 have Ny152 := Aside0.mk hy152
 clear hy152
 obtain rfl := Option.some.inj H
 go_enter Try.func35, Try.ntmps35
 go_wp2_with (first | ((with_reducible refine gate_dst (N := 1) rfl ?_); refine Kd.R_lit Kd.string _ 9 ?hg (N := 1) ?hd (xs := ([(⟨#[97, 110, 110]⟩ : ByteArray), (⟨#[98, 111, 98]⟩ : ByteArray), (⟨#[99, 97, 116]⟩ : ByteArray), (⟨#[100, 97, 110]⟩ : ByteArray), (⟨#[101, 118, 101]⟩ : ByteArray), (⟨#[102, 97, 121]⟩ : ByteArray)] : List ByteArray)) (inner := [.string (⟨#[97, 110, 110]⟩ : ByteArray), .string (⟨#[98, 111, 98]⟩ : ByteArray), .string (⟨#[99, 97, 116]⟩ : ByteArray), .string (⟨#[100, 97, 110]⟩ : ByteArray), .string (⟨#[101, 118, 101]⟩ : ByteArray), .string (⟨#[102, 97, 121]⟩ : ByteArray)]) (ok := fun _ => True) (okp := fun _ => True) ?hr ?hp (fun _ hk => hk) trivial (Below.refl _ _) (Nat.le_refl _) (by simp) ?_; (case hd => rfl); (case hg => rfl); (case hr => first | (go_simp; done) | (go_simp; rfl)); (case hp => exact (Reps.one (show Kd.M Kd.string _ _ _ (⟨#[97, 110, 110]⟩ : ByteArray) [.string (⟨#[97, 110, 110]⟩ : ByteArray)] from rfl) (Reps.one (show Kd.M Kd.string _ _ _ (⟨#[98, 111, 98]⟩ : ByteArray) [.string (⟨#[98, 111, 98]⟩ : ByteArray)] from rfl) (Reps.one (show Kd.M Kd.string _ _ _ (⟨#[99, 97, 116]⟩ : ByteArray) [.string (⟨#[99, 97, 116]⟩ : ByteArray)] from rfl) (Reps.one (show Kd.M Kd.string _ _ _ (⟨#[100, 97, 110]⟩ : ByteArray) [.string (⟨#[100, 97, 110]⟩ : ByteArray)] from rfl) (Reps.one (show Kd.M Kd.string _ _ _ (⟨#[101, 118, 101]⟩ : ByteArray) [.string (⟨#[101, 118, 101]⟩ : ByteArray)] from rfl) (Reps.one (show Kd.M Kd.string _ _ _ (⟨#[102, 97, 121]⟩ : ByteArray) [.string (⟨#[102, 97, 121]⟩ : ByteArray)] from rfl) (Reps.none _ _)))))))); intro v153 w1 ho2 hb hg_ hnew_; clear hg_ hnew_; (first | rw [← Ny152.out] at ho2 | (simp only [Int.reduceToNat] at ho2; rw [← Ny152.out] at ho2)); have n0_ := Aside0.mk (Kd.R_lower ho2 (below_size (by repeat (first | (with_reducible first | exact HB.out | apply below_alloc | apply pw_below_drewN | apply below_drew1) | exact HB.out)))); have n1_ := Aside0.mk (below_step (by repeat (first | (with_reducible first | exact HB.out | apply below_alloc | apply pw_below_drewN | apply below_drew1) | exact HB.out)) hb); clear HB; have HO154 := n0_; have HB := n1_; clear n0_ n1_; clear hb ho2))
 go_ret
 exact ⟨_, by first | rfl | (simp [errW_none, errW_some] <;> rfl) | (simp [*, errW_none, errW_some] <;> rfl), by (with_reducible repeat (first | apply Kd.R_alloc | apply Kd.R_drewN | apply Kd.R_drew)); exact HO154.out, by repeat (first | (with_reducible first | exact HB.out | apply below_alloc | apply pw_below_drewN | apply below_drew1) | exact HB.out)⟩

/-! ### flagstonedata_Id: function 26 -/
def flagstonedata_Id.f (a0 : Int) : Option (ByteArray) := (flagstonedata_Ids.f).bind fun t155 => ((flagstonedata_Ids.f).bind fun t158 => (if (t158.length : Int) = 0 then (none) else (if 0 ≤ (Int.tmod a0 (t158.length : Int)) then (if (Int.tmod a0 (t158.length : Int)) < (t155.length : Int) then (some (rdOf ByteArray.empty t155 (Int.tmod a0 (t158.length : Int)))) else (none)) else (none))))
set_option maxHeartbeats 8000000 in
set_option maxRecDepth 100000 in
theorem flagstonedata_Id.calls (a0 : Int) (r : ByteArray) (w : World) (h : flagstonedata_Id.f a0 = some r) :
  Calls Try.prog 26 #[.int .i64 a0] w fun e w' => e = .returned (.string r) ∧ Below w.heap.size w w' := by
 have HB := Aside0.mk (Below.refl w.heap.size w)
 have H : ((flagstonedata_Ids.f).bind fun t155 => ((flagstonedata_Ids.f).bind fun t158 => (if (t158.length : Int) = 0 then (none) else (if 0 ≤ (Int.tmod a0 (t158.length : Int)) then (if (Int.tmod a0 (t158.length : Int)) < (t155.length : Int) then (some (rdOf ByteArray.empty t155 (Int.tmod a0 (t158.length : Int)))) else (none)) else (none))))) = some r := h
 clear h
 replace H := Option.bind_eq_some_iff.mp H
 obtain ⟨t155, A20, H⟩ := H
 replace H : ((flagstonedata_Ids.f).bind fun t158 => (if (t158.length : Int) = 0 then (none) else (if 0 ≤ (Int.tmod a0 (t158.length : Int)) then (if (Int.tmod a0 (t158.length : Int)) < (t155.length : Int) then (some (rdOf ByteArray.empty t155 (Int.tmod a0 (t158.length : Int)))) else (none)) else (none)))) = some r := H
 have A2 := Aside0.mk A20
 clear A20
 replace H := Option.bind_eq_some_iff.mp H
 obtain ⟨t158, A30, H⟩ := H
 replace H : (if (t158.length : Int) = 0 then (none) else (if 0 ≤ (Int.tmod a0 (t158.length : Int)) then (if (Int.tmod a0 (t158.length : Int)) < (t155.length : Int) then (some (rdOf ByteArray.empty t155 (Int.tmod a0 (t158.length : Int)))) else (none)) else (none))) = some r := H
 have A3 := Aside0.mk A30
 clear A30
 by_cases c4 : (t158.length : Int) = 0
 ·rw [if_pos c4] at H
  exact absurd H (by simp)
 ·rw [if_neg c4] at H
  have c4b0 : ((t158.length : Int) == 0) = false := beq_eq_false_iff_ne.mpr c4
  have c4b1 : ((t158.length : Int) != 0) = true := bne_iff_ne.mpr c4
  have c4b2 : ¬ (t158 = []) := fun h_ => c4 (by rw [h_]; rfl)
  obtain ⟨ji5, hji5⟩ : ∃ j_ : Int, (Int.tmod a0 (t158.length : Int)) = j_ := ⟨_, rfl⟩
  replace H : (if 0 ≤ (ji5) then (if (ji5) < (t155.length : Int) then (some (rdOf ByteArray.empty t155 (ji5))) else (none)) else (none)) = some r := by first | (rw [hji5] at H; exact H) | (simp only [hji5] at H ⊢; exact H)
  (try rw [hji5] at A2)
  (try rw [hji5] at A3)
  by_cases c6 : 0 ≤ (ji5)
  ·rw [if_pos c6] at H
   have c6b0 : decide (0 ≤ (ji5)) = true := decide_eq_true c6
   clear c6
   by_cases c7 : (ji5) < (t155.length : Int)
   ·rw [if_pos c7] at H
    have c7b0 : decide ((ji5) < (t155.length : Int)) = true := decide_eq_true c7
    clear c7
    obtain rfl := Option.some.inj H
    go_enter Try.func26, Try.ntmps26
    go_wp2_with (first | ((with_reducible refine gate_callee (f := 35) rfl ?_); refine goesL_ (some 3) rfl rfl Try.func35 (by kernel_rfl) rfl #[] rfl (by (try simp only [List.map_toArray, List.map_cons, List.map_nil]); first | done | rfl | (simp only [List.length_drop, List.length_take]; rfl)) ?_; (with_reducible refine (flagstonedata_Ids.calls  t155 _ A2.out).mono ?_); rintro e w8 ⟨v156, rfl, ho0, hb⟩; refine ⟨_, rfl, ?_⟩; have n0_ := Aside0.mk (Kd.R_lower ho0 (below_size (by repeat (first | (with_reducible first | exact HB.out | apply below_alloc | apply pw_below_drewN | apply below_drew1) | exact HB.out)))); have n1_ := Aside0.mk (below_step (by repeat (first | (with_reducible first | exact HB.out | apply below_alloc | apply pw_below_drewN | apply below_drew1) | exact HB.out)) hb); clear HB; have HO157 := n0_; have HB := n1_; clear n0_ n1_; (try clear hb); (try clear hb2); (try clear hk); (try clear hi); (try clear ho0)) | ((with_reducible refine gate_callee (f := 35) rfl ?_); refine goesL_ (some 5) rfl rfl Try.func35 (by kernel_rfl) rfl #[] rfl (by (try simp only [List.map_toArray, List.map_cons, List.map_nil]); first | done | rfl | (simp only [List.length_drop, List.length_take]; rfl)) ?_; (with_reducible refine (flagstonedata_Ids.calls  t158 _ A3.out).mono ?_); rintro e w9 ⟨v159, rfl, ho0, hb⟩; refine ⟨_, rfl, ?_⟩; have n0_ := Aside0.mk (Kd.R_elder' (by (with_reducible repeat (first | apply Kd.R_alloc | apply Kd.R_drewN | apply Kd.R_drew)); exact HO157.out) (Kd.R_base ho0) hb); have n1_ := Aside0.mk (Kd.R_lower (Kd.R_new' ho0 (Kd.R_lt (by (with_reducible repeat (first | apply Kd.R_alloc | apply Kd.R_drewN | apply Kd.R_drew)); exact HO157.out))) (below_size (by repeat (first | (with_reducible first | exact HB.out | apply below_alloc | apply pw_below_drewN | apply below_drew1) | exact HB.out)))); have n2_ := Aside0.mk (below_step (by repeat (first | (with_reducible first | exact HB.out | apply below_alloc | apply pw_below_drewN | apply below_drew1) | exact HB.out)) hb); clear HO157; clear HB; have HO157 := n0_; have HO160 := n1_; have HB := n2_; clear n0_ n1_ n2_; (try clear hb); (try clear hb2); (try clear hk); (try clear hi); (try clear ho0); obtain ⟨Ao10, co10, eo10⟩ := Kd.R_slice HO160.out; subst eo10; obtain ⟨Ao11, co11, eo11⟩ := Kd.R_slice HO157.out; subst eo11; have p161 : 0 ≤ ((ji5) : Int) := of_decide_eq_true (by first | (with_reducible assumption) | assumption); have q161 : (ji5) < (t155.length : Int) := of_decide_eq_true (by first | (with_reducible assumption) | assumption); obtain ⟨ad161, e161, hx161_0⟩ := Kd.at_string (Kd.R_reads' HO157.out).2.2 (ji5) p161 q161; cases e161; replace p161 := eq_true p161; replace q161 := eq_true q161))
    go_ret
    exact ⟨by first | rfl | (simp [errW_none, errW_some] <;> rfl) | (simp only [← hji5]; first | rfl | (simp [errW_none, errW_some] <;> rfl)) | (simp [*, errW_none, errW_some] <;> rfl), by repeat (first | (with_reducible first | exact HB.out | apply below_alloc | apply pw_below_drewN | apply below_drew1) | exact HB.out)⟩
   ·rw [if_neg c7] at H
    exact absurd H (by simp)
  ·rw [if_neg c6] at H
   exact absurd H (by simp)

/-! ### flagstonedata_Source_Next: function 27 -/
def flagstonedata_Source_Next.f (s0_0 : List Int) (s0_1 : Int) (a1 : Int) : Option (Int × Int) := if s0_1 ≥ (s0_0.length : Int) then (some (0, s0_1)) else (if 0 ≤ (wrap64 ((wrap64 (s0_1 + 1)) - 1)) then (if (wrap64 ((wrap64 (s0_1 + 1)) - 1)) < (s0_0.length : Int) then (if a1 = 0 then (none) else (some (Int.tmod (wrap64 (rd s0_0 (wrap64 ((wrap64 (s0_1 + 1)) - 1)))) a1, wrap64 (s0_1 + 1)))) else (none)) else (none))
set_option maxHeartbeats 8000000 in
set_option maxRecDepth 100000 in
theorem flagstonedata_Source_Next.calls (g : Nat) (s0_0 : List Int) (s0_1 : Int) (a1 : Int) (r1 : Int) (r2 : Int) (w0 w : World) (hI : IsS58 w0 w g s0_0 s0_1) (hB : Below w0.heap.size w0 w) (h : flagstonedata_Source_Next.f s0_0 s0_1 a1 = some (r1, r2)) :
  Calls Try.prog 27 #[.pointer (some ⟨g, 0, none⟩), .int .i64 a1] w fun e w' => e = .returned (.int .i64 r1) ∧ IsS58 w0 w' g s0_0 r2 ∧ Below w0.heap.size w0 w' ∧ KeepBut w w' g none := by
 have HI0 := Aside0.mk hI
 have HK := Aside0.mk (KeepBut.refl w g none)
 have HL := Aside0.mk hB.size
 clear hI
 have HW0 := Aside0.mk hB.size
 have HB := Aside0.mk hB
 clear hB
 have H : (if s0_1 ≥ (s0_0.length : Int) then (some (0, s0_1)) else (if 0 ≤ (wrap64 ((wrap64 (s0_1 + 1)) - 1)) then (if (wrap64 ((wrap64 (s0_1 + 1)) - 1)) < (s0_0.length : Int) then (if a1 = 0 then (none) else (some (Int.tmod (wrap64 (rd s0_0 (wrap64 ((wrap64 (s0_1 + 1)) - 1)))) a1, wrap64 (s0_1 + 1)))) else (none)) else (none))) = some (r1, r2) := h
 clear h
 by_cases c3 : s0_1 ≥ (s0_0.length : Int)
 ·rw [if_pos c3] at H
  have c3b0 : decide ((s0_0.length : Int) ≤ s0_1) = true := decide_eq_true c3
  clear c3
  simp only [Option.some.injEq, Prod.mk.injEq] at H
  obtain ⟨rfl, rfl⟩ := H
  obtain ⟨ASz4_0, cSz4_0, HGz4, hgz4, HSz4_0⟩ := HI0.out
  have hcz4_0 := cellS58_0 HGz4
  have hcz4_1 := cellS58_1 HGz4
  have hfz4_1 := blk_frozen HGz4 1
  clear HGz4 hgz4
  go_enter Try.func27, Try.ntmps27
  go_wp2
  repeat (go_quiet (fail); try go_wp2)
  go_ret
  exact ⟨by first | rfl | (simp [errW_none, errW_some] <;> rfl) | (simp [*, errW_none, errW_some] <;> rfl), by repeat (first | (with_reducible first | exact HI0.out | apply IsS58.alloc | apply IsS58.drewN | apply IsS58.drew | apply IsS58.set_1) | exact HI0.out), by repeat (first | (with_reducible first | exact HB.out | apply below_alloc | apply pw_below_drewN | apply below_drew1 | refine below_set ?_ (IsS58.ge HI0.out)) | exact HB.out), by repeat (first | (with_reducible first | exact HK.out | apply KeepBut.set_ | apply keep_drewN | apply keep_drew | apply keep_alloc) | exact HK.out)⟩
 ·rw [if_neg c3] at H
  have c3b0 : decide ((s0_0.length : Int) ≤ s0_1) = false := decide_eq_false c3
  clear c3
  obtain ⟨ji5, hji5⟩ : ∃ j_ : Int, (wrap64 ((wrap64 (s0_1 + 1)) - 1)) = j_ := ⟨_, rfl⟩
  replace H : (if 0 ≤ (ji5) then (if (ji5) < (s0_0.length : Int) then (if a1 = 0 then (none) else (some (Int.tmod (wrap64 (rd s0_0 (ji5))) a1, wrap64 (s0_1 + 1)))) else (none)) else (none)) = some (r1, r2) := by first | (rw [hji5] at H; exact H) | (simp only [hji5] at H ⊢; exact H)
  have hji5w : (IntKind.i64.wrap ((wrap64 (s0_1 + 1)) - 1)) = ji5 := (i64_w _).trans hji5
  by_cases c6 : 0 ≤ (ji5)
  ·rw [if_pos c6] at H
   have c6b0 : decide (0 ≤ (ji5)) = true := decide_eq_true c6
   clear c6
   by_cases c7 : (ji5) < (s0_0.length : Int)
   ·rw [if_pos c7] at H
    have c7b0 : decide ((ji5) < (s0_0.length : Int)) = true := decide_eq_true c7
    clear c7
    by_cases c8 : a1 = 0
    ·rw [if_pos c8] at H
     exact absurd H (by simp)
    ·rw [if_neg c8] at H
     have c8b0 : (a1 == 0) = false := beq_eq_false_iff_ne.mpr c8
     have c8b1 : (a1 != 0) = true := bne_iff_ne.mpr c8
     simp only [Option.some.injEq, Prod.mk.injEq] at H
     obtain ⟨rfl, rfl⟩ := H
     obtain ⟨ASz9_0, cSz9_0, HGz9, hgz9, HSz9_0⟩ := HI0.out
     have hcz9_0 := cellS58_0 HGz9
     have hcz9_1 := cellS58_1 HGz9
     have hfz9_1 := blk_frozen HGz9 1
     clear HGz9 hgz9
     have p162 : 0 ≤ ((ji5) : Int) := of_decide_eq_true (by first | (with_reducible assumption) | assumption)
     have q162 : (ji5) < (s0_0.length : Int) := of_decide_eq_true (by first | (with_reducible assumption) | assumption)
     obtain ⟨ad162, e162, hx162_0⟩ := Kd.at_int HSz9_0 (ji5) p162 q162
     cases e162
     have hn162_0 : ad162.block ≠ g := Nat.ne_of_lt (Nat.lt_of_lt_of_le (by have := World.block_lt_of_cell? _ _ hx162_0; first | rwa [add_block] at this | exact this) (IsS58.ge HI0.out))
     replace hx162_0 := pw_cell_below HB.out hx162_0
     replace hx162_0 := (cell_far (p := ⟨g, 1, none⟩) (by first | (rw [add_block]; exact hn162_0) | (show (Addr.add _ _).block ≠ _; rw [add_block]; exact hn162_0) | exact hn162_0) (.int .i64 (wrap64 (s0_1 + 1)))).trans hx162_0
     (try have hy162_0 := fun (n_ : Nat) => (show (((w.drewN n_).setCell ⟨g, 1, none⟩ (.int .i64 (wrap64 (s0_1 + 1))))).cell? _ = some _ from hx162_0))
     clear hn162_0
     replace p162 := eq_true p162
     replace q162 := eq_true q162
     go_enter Try.func27, Try.ntmps27
     go_wp2
     repeat (go_quiet (fail); try go_wp2)
     go_ret
     exact ⟨by first | rfl | (simp [errW_none, errW_some] <;> rfl) | (simp only [← hji5]; first | rfl | (simp [errW_none, errW_some] <;> rfl)) | (simp [*, errW_none, errW_some] <;> rfl), by repeat (first | (with_reducible first | exact HI0.out | apply IsS58.alloc | apply IsS58.drewN | apply IsS58.drew | apply IsS58.set_1) | exact HI0.out), by repeat (first | (with_reducible first | exact HB.out | apply below_alloc | apply pw_below_drewN | apply below_drew1 | refine below_set ?_ (IsS58.ge HI0.out)) | exact HB.out), by repeat (first | (with_reducible first | exact HK.out | apply KeepBut.set_ | apply keep_drewN | apply keep_drew | apply keep_alloc) | exact HK.out)⟩
   ·rw [if_neg c7] at H
    exact absurd H (by simp)
  ·rw [if_neg c6] at H
   exact absurd H (by simp)

/-! ### flagstonedata_Samples: function 12 -/
mutual
def flagstonedata_Samples.l0 : Nat → Int → List (S34) → List Int → Int → Option ((List (S34)))
 | 0, _, _, _, _ => none
 | k + 1, x1, x6, x164000, x164001 => (flagstonedata_Source_More.f x164000 x164001).bind fun bt164 => (if bt164.1 = true then (flagstonedata_Samples.j1 k x1 x6 (decide ((x6.length : Int) < 40)) x164000 bt164.2) else (flagstonedata_Samples.j1 k x1 x6 false x164000 bt164.2))
def flagstonedata_Samples.j1 : Nat → Int → List (S34) → Bool → List Int → Int → Option ((List (S34)))
 | 0, _, _, _, _, _ => none
 | k + 1, x1, x6, x18, x164000, x164001 => if x18 = true then ((flagstonedata_Id.f (x6.length : Int)).bind fun t166 => ((flagstonedata_Source_Next.f x164000 x164001 2).bind fun bt167 => ((flagstonedata_Source_Next.f x164000 bt167.2 2).bind fun bt169 => ((flagstonedata_Source_Next.f x164000 bt169.2 256).bind fun bt172 => (if (wrap64 (x1 + 1)) = 0 then (none) else ((flagstonedata_Source_Next.f x164000 bt172.2 9).bind fun bt174 => ((flagstonedata_Source_Next.f x164000 bt174.2 5).bind fun bt176 => (if x6.length < 1466015503701 then (flagstonedata_Samples.l0 k x1 (x6 ++ [(⟨(⟨t166, (⟨#[97, 112, 112]⟩ : ByteArray), wrap64 ((x6.length : Int) + 1), (x6.length : Int), wrap64 (1 + bt167.1), wrap64 (1 + bt169.1)⟩ : S32), Int.tmod bt172.1 (wrap64 (x1 + 1)), bt174.1, bt176.1, false⟩ : S34)]) x164000 bt176.2) else (none))))))))) else (some x6)
end
def flagstonedata_Samples.f (k : Nat) (l0 : List Int) (a1 : Int) : Option ((List (S34))) := flagstonedata_Samples.l0 k a1 ([] : List (S34)) l0 0
theorem flagstonedata_Samples.mono_l : ∀ k, (∀ y0 y1 y2 y3, LeO (flagstonedata_Samples.l0 k y0 y1 y2 y3) (flagstonedata_Samples.l0 (k + 1) y0 y1 y2 y3)) ∧ (∀ y0 y1 y2 y3 y4, LeO (flagstonedata_Samples.j1 k y0 y1 y2 y3 y4) (flagstonedata_Samples.j1 (k + 1) y0 y1 y2 y3 y4))
 | 0 => ⟨fun _ _ _ _ r h => by simp [flagstonedata_Samples.l0] at h, fun _ _ _ _ _ r h => by simp [flagstonedata_Samples.j1] at h⟩
 | k + 1 => by
  obtain ⟨ih0, ih1⟩ := flagstonedata_Samples.mono_l k
  refine ⟨?_, ?_⟩
  ·intro y0 y1 y2 y3
   unfold flagstonedata_Samples.l0
   repeat' first
   | (with_reducible exact ih0 _ _ _ _)
   | (with_reducible exact ih1 _ _ _ _ _)
   | (with_reducible exact LeO.refl _)
   | (with_reducible exact LeO.none _)
   | (with_reducible refine LeO.ite ?_ ?_)
   | (with_reducible refine LeO.bind ?_ (fun _ => ?_))
   | exact ih0 _ _ _ _
   | exact ih1 _ _ _ _ _
   | exact LeO.none _
   | refine LeO.ite ?_ ?_
   | refine LeO.bind ?_ (fun _ => ?_)
  ·intro y0 y1 y2 y3 y4
   unfold flagstonedata_Samples.j1
   repeat' first
   | (with_reducible exact ih0 _ _ _ _)
   | (with_reducible exact ih1 _ _ _ _ _)
   | (with_reducible exact LeO.refl _)
   | (with_reducible exact LeO.none _)
   | (with_reducible refine LeO.ite ?_ ?_)
   | (with_reducible refine LeO.bind ?_ (fun _ => ?_))
   | exact ih0 _ _ _ _
   | exact ih1 _ _ _ _ _
   | exact LeO.none _
   | refine LeO.ite ?_ ?_
   | refine LeO.bind ?_ (fun _ => ?_)
theorem flagstonedata_Samples.mono : ∀ a0 a1 k, LeO (flagstonedata_Samples.f k a0 a1) (flagstonedata_Samples.f (k + 1) a0 a1) := by
 intro a0 a1 k
 obtain ⟨ih0, ih1⟩ := flagstonedata_Samples.mono_l k
 unfold flagstonedata_Samples.f
 repeat' first
   | (with_reducible exact ih0 _ _ _ _)
   | (with_reducible exact ih1 _ _ _ _ _)
   | (with_reducible exact LeO.refl _)
   | (with_reducible exact LeO.none _)
   | (with_reducible refine LeO.ite ?_ ?_)
   | (with_reducible refine LeO.bind ?_ (fun _ => ?_))
   | exact ih0 _ _ _ _
   | exact ih1 _ _ _ _ _
   | exact LeO.none _
   | refine LeO.ite ?_ ?_
   | refine LeO.bind ?_ (fun _ => ?_)
def flagstonedata_Samples.T6 : Bool × List (List Nat × List Nat) := (true, [([], []), ([], []), ([], []), ([2], [2]), ([], []), ([4], [4]), ([3, 5], [3, 5]), ([], []), ([7, 3], [7]), ([], []), ([9, 8], [9]), ([1, 6, 8, 10], [1, 6, 8, 10]), ([11], [11]), ([0, 12, 10], [0, 12]), ([13, 13, 0, 1, 2, 3, 4, 5, 6, 7, 8, 9, 10, 11, 12, 13], [0, 13])])
def flagstonedata_Samples.B6 : List Nat := [0, 0, 0, 4, 0, 16, 60, 0, 140, 0, 908, 2046, 4094, 8191, 16383]
theorem flagstonedata_Samples.tab6 : rtab .any (opsOf Try.f12 6) = flagstonedata_Samples.T6 := by kernel_rfl
theorem flagstonedata_Samples.bits6 : waitsOk flagstonedata_Samples.T6.2 flagstonedata_Samples.B6 = true := by kernel_rfl
set_option maxHeartbeats 8000000 in
set_option maxRecDepth 100000 in
theorem flagstonedata_Samples.calls (k : Nat) (A0 : Option Addr) (c0 : Nat) (l0 : List Int) (a1 : Int) (r : List (S34)) (w : World) (hr0 : Kd.C (Kd.int .u8) w A0 l0.length l0) (hc0 : l0.length ≤ c0) (h : flagstonedata_Samples.f k l0 a1 = some r) :
  Calls Try.prog 12 #[.slice A0 l0.length c0, .int .i64 a1] w fun e w' => ∃ v0_ : Value, e = .returned (v0_) ∧ Kd.R k34 34 w' w.heap.size (fun _ => True) v0_ r ∧ Below w.heap.size w w' := by
 have hu58 := Try.underlying58
 have hu32 := Try.underlying32
 have hu34 := Try.underlying34
 have HR0 := Aside0.mk hr0
 have HC0 := Aside0.mk hc0
 clear hr0 hc0
 have HB := Aside0.mk (Below.refl w.heap.size w)
 have H : (flagstonedata_Samples.l0 k a1 ([] : List (S34)) l0 0) = some r := h
 clear h
 have H' := Aside0.mk H
 clear H
 go_enter Try.func12, Try.ntmps12
 go_wp2_with (first | ((with_reducible refine gate_dst (N := 11) rfl ?_); (try (refine gate_guard (by rfl) ?_; dsimp only)); refine box_event ?hg (N := 11) ?hd (cs := #[.slice A0 l0.length c0, .int .i64 0]) (t := 58) ?hr ?_; (case hd => rfl); (case hg => rfl); (case hr => first | (go_simp; done) | (go_simp; rfl)); intro gb163 hg w3 hbox hb; have n0_ := Aside0.mk (below_step (by repeat (first | (with_reducible first | exact HB.out | apply below_alloc | apply pw_below_drewN | apply below_drew1) | exact HB.out)) hb); have n1_ := Aside0.mk ((by rw [hg]; exact (below_size (by repeat (first | (with_reducible first | exact HB.out | apply below_alloc | apply pw_below_drewN | apply below_drew1) | exact HB.out))) : w.heap.size ≤ gb163)); have n2_ := Aside0.mk ((by rw [hg]; exact (below_size (by repeat (first | (with_reducible first | exact HB.out | apply below_alloc | apply pw_below_drewN | apply below_drew1) | exact HB.out))) : w.heap.size ≤ gb163)); have n3_ := Aside0.mk ((⟨_, _, hbox, (by rw [hg]; exact (below_size (by repeat (first | (with_reducible first | exact HB.out | apply below_alloc | apply pw_below_drewN | apply below_drew1) | exact HB.out)))), HR0.out⟩ : IsS58 w w3 gb163 l0 0)); clear HB; have HB := n0_; have GW163 := n1_; have GE163 := n2_; have HI163 := n3_; clear n0_ n1_ n2_ n3_; clear hb hbox hg))
 go_loopg [6] k (fun kq v6 w' => ∃ (x6_1 : List (S34)) (x164001_1 : Int), Aside0 (flagstonedata_Samples.l0 kq a1 x6_1 l0 x164001_1 = some r) ∧ Aside0 (kq ≤ k) ∧ Aside0 (Kd.R k34 34 w' w.heap.size (fun _ => True) v6 x6_1) ∧ Aside0 (IsS58 w w' gb163 l0 x164001_1) ∧ Aside0 (Below w.heap.size w w'))
 case atStart => exact ⟨(([] : List (S34))), (0), H', ⟨Nat.le_refl _⟩, ⟨by first | exact Kd.R_nil _ _ _ _ _ | exact Kd.N_nil _ _ _ _ _ | exact Kd.V_nil _ _ _ _ _ | exact Kd.Q_nil _ _ _ _ _ | exact Kd.S_nil _ _ _ _ _⟩, ⟨by repeat (first | (with_reducible first | exact HI163.out | apply IsS58.alloc | apply IsS58.drewN | apply IsS58.drew | apply IsS58.set_1) | exact HI163.out)⟩, ⟨by repeat (first | (with_reducible first | exact HB.out | apply below_alloc | apply pw_below_drewN | apply below_drew1 | refine below_set ?_ (IsS58.ge HI163.out)) | exact HB.out)⟩⟩
 case round =>
  clear H'
  try clear c1
  try clear p2
  obtain ⟨x6_1, x164001_1, HA, HK1, HO_6, HI163, HB⟩ := hrel
  cases gk with
  | zero => exact absurd HA.out (by simp [flagstonedata_Samples.l0])
  | succ k1 =>
   have H := HA.out
   clear HA
   simp only [flagstonedata_Samples.l0] at H
   have HC4 := Aside0.mk H
   clear H
   go_upto_region 3 with (fail)
   go_cut [18] (fun v18 wc => ∃ (kq : Nat) (x18_3 : Bool) (x164001_3 : Int), v18 = .bool x18_3 ∧ Aside0 (flagstonedata_Samples.j1 kq a1 x6_1 x18_3 l0 x164001_3 = some r) ∧ Aside0 (kq ≤ k1) ∧ Aside0 (Kd.R k34 34 wc w.heap.size (fun _ => True) u6 x6_1) ∧ Aside0 (IsS58 w wc gb163 l0 x164001_3) ∧ Aside0 (Below w.heap.size w wc))
   case first =>
    have H := HC4.out
    clear HC4
    replace H := Option.bind_eq_some_iff.mp H
    obtain ⟨⟨t164, t165⟩, A50, H⟩ := H
    replace H : (if t164 = true then (flagstonedata_Samples.j1 k1 a1 x6_1 (decide ((x6_1.length : Int) < 40)) l0 t165) else (flagstonedata_Samples.j1 k1 a1 x6_1 false l0 t165)) = some r := H
    have A5 := Aside0.mk A50
    clear A50
    by_cases c6 : t164 = true
    ·subst c6
     have H1 : (flagstonedata_Samples.j1 k1 a1 x6_1 (decide ((x6_1.length : Int) < 40)) l0 t165) = some r := by rw [if_pos rfl] at H; exact H
     clear H
     have H := H1
     clear H1
     have H' := Aside0.mk H
     clear H
     go_wp2_with (first | ((with_reducible refine gate_callee (f := 25) rfl ?_); refine goesL_ (some 13) rfl rfl Try.func25 (by kernel_rfl) rfl #[.pointer (some ⟨gb163, 0, none⟩)] rfl (by (try simp only [List.map_toArray, List.map_cons, List.map_nil]); first | done | rfl | (simp only [List.length_drop, List.length_take]; rfl)) ?_; (with_reducible refine (flagstonedata_Source_More.calls gb163 l0 x164001_1 true t165 w _ ?side1 ?side2 A5.out).mono ?_); (case side1 => repeat (first | (with_reducible first | exact HI163.out | apply IsS58.alloc | apply IsS58.drewN | apply IsS58.drew | apply IsS58.set_1) | exact HI163.out)); (case side2 => repeat (first | (with_reducible first | exact HB.out | apply below_alloc | apply pw_below_drewN | apply below_drew1 | refine below_set ?_ (IsS58.ge HI163.out)) | exact HB.out)); rintro e w7 ⟨rfl, hi, hb, hk⟩; refine ⟨_, rfl, ?_⟩; have n0_ := Aside0.mk (Kd.R_mono (Kd.R_keep (IsS58.apart (show IsS58 w _ gb163 l0 x164001_1 from by repeat (first | (with_reducible first | exact HI163.out | apply IsS58.alloc | apply IsS58.drewN | apply IsS58.drew | apply IsS58.set_1) | exact HI163.out)) (by (with_reducible repeat (first | apply Kd.R_alloc | apply Kd.R_drewN | apply Kd.R_drew)); exact HO_6.out) (by decide)) hk (fun _ h => h.2)) (fun _ h => h.1)); have n1_ := Aside0.mk (hb); have n2_ := Aside0.mk (hi); clear HO_6; clear HB; clear HI163; have HO_6 := n0_; have HB := n1_; have HI163 := n2_; clear n0_ n1_ n2_; (try clear hb); (try clear hb2); (try clear hk); (try clear hi); obtain ⟨Ao8, co8, eo8⟩ := Kd.R_slice HO_6.out; subst eo8))
     go_meet
     case rel => exact ⟨_, (decide ((x6_1.length : Int) < 40)), (t165), (by first | rfl | (simp; done) | (simp [*]; done) | exact congrArg (Value.int _) (by unfold wrap64; omega)), H', ⟨by have := HK1.out; first | omega | exact Nat.le_refl _⟩, ⟨by (with_reducible repeat (first | apply Kd.R_alloc | apply Kd.R_drewN | apply Kd.R_drew)); exact HO_6.out⟩, ⟨by repeat (first | (with_reducible first | exact HI163.out | apply IsS58.alloc | apply IsS58.drewN | apply IsS58.drew | apply IsS58.set_1) | exact HI163.out)⟩, ⟨by repeat (first | (with_reducible first | exact HB.out | apply below_alloc | apply pw_below_drewN | apply below_drew1 | refine below_set ?_ (IsS58.ge HI163.out)) | exact HB.out)⟩⟩
    ·replace c6 := Bool.eq_false_iff.mpr c6
     subst c6
     have H1 : (flagstonedata_Samples.j1 k1 a1 x6_1 false l0 t165) = some r := by rw [if_neg (show ¬ (false = true) by decide)] at H; exact H
     clear H
     have H := H1
     clear H1
     have H' := Aside0.mk H
     clear H
     go_wp2_with (first | ((with_reducible refine gate_callee (f := 25) rfl ?_); refine goesL_ (some 13) rfl rfl Try.func25 (by kernel_rfl) rfl #[.pointer (some ⟨gb163, 0, none⟩)] rfl (by (try simp only [List.map_toArray, List.map_cons, List.map_nil]); first | done | rfl | (simp only [List.length_drop, List.length_take]; rfl)) ?_; (with_reducible refine (flagstonedata_Source_More.calls gb163 l0 x164001_1 false t165 w _ ?side1 ?side2 A5.out).mono ?_); (case side1 => repeat (first | (with_reducible first | exact HI163.out | apply IsS58.alloc | apply IsS58.drewN | apply IsS58.drew | apply IsS58.set_1) | exact HI163.out)); (case side2 => repeat (first | (with_reducible first | exact HB.out | apply below_alloc | apply pw_below_drewN | apply below_drew1 | refine below_set ?_ (IsS58.ge HI163.out)) | exact HB.out)); rintro e w9 ⟨rfl, hi, hb, hk⟩; refine ⟨_, rfl, ?_⟩; have n0_ := Aside0.mk (Kd.R_mono (Kd.R_keep (IsS58.apart (show IsS58 w _ gb163 l0 x164001_1 from by repeat (first | (with_reducible first | exact HI163.out | apply IsS58.alloc | apply IsS58.drewN | apply IsS58.drew | apply IsS58.set_1) | exact HI163.out)) (by (with_reducible repeat (first | apply Kd.R_alloc | apply Kd.R_drewN | apply Kd.R_drew)); exact HO_6.out) (by decide)) hk (fun _ h => h.2)) (fun _ h => h.1)); have n1_ := Aside0.mk (hb); have n2_ := Aside0.mk (hi); clear HO_6; clear HB; clear HI163; have HO_6 := n0_; have HB := n1_; have HI163 := n2_; clear n0_ n1_ n2_; (try clear hb); (try clear hb2); (try clear hk); (try clear hi)))
     go_meet
     case rel => exact ⟨_, (false), (t165), (by first | rfl | (simp; done) | (simp [*]; done) | exact congrArg (Value.int _) (by unfold wrap64; omega)), H', ⟨by have := HK1.out; first | omega | exact Nat.le_refl _⟩, ⟨by (with_reducible repeat (first | apply Kd.R_alloc | apply Kd.R_drewN | apply Kd.R_drew)); exact HO_6.out⟩, ⟨by repeat (first | (with_reducible first | exact HI163.out | apply IsS58.alloc | apply IsS58.drewN | apply IsS58.drew | apply IsS58.set_1) | exact HI163.out)⟩, ⟨by repeat (first | (with_reducible first | exact HB.out | apply below_alloc | apply pw_below_drewN | apply below_drew1 | refine below_set ?_ (IsS58.ge HI163.out)) | exact HB.out)⟩⟩
   case rest =>
    clear HC4
    try clear c1
    try clear c2
    try clear p2
    try clear c6
    try clear p6
    try clear p2
    obtain ⟨kq, x18_3, x164001_3, rfl, HA, HJ3, HO_6, HI163, HB⟩ := hcut
    cases kq with
    | zero => exact absurd HA.out (by simp [flagstonedata_Samples.j1])
    | succ kj3 =>
     have H := HA.out
     clear HA
     simp only [flagstonedata_Samples.j1] at H
     by_cases c10 : x18_3 = true
     ·subst c10
      have H1 : ((flagstonedata_Id.f (x6_1.length : Int)).bind fun t166 => ((flagstonedata_Source_Next.f l0 x164001_3 2).bind fun bt167 => ((flagstonedata_Source_Next.f l0 bt167.2 2).bind fun bt169 => ((flagstonedata_Source_Next.f l0 bt169.2 256).bind fun bt172 => (if (wrap64 (a1 + 1)) = 0 then (none) else ((flagstonedata_Source_Next.f l0 bt172.2 9).bind fun bt174 => ((flagstonedata_Source_Next.f l0 bt174.2 5).bind fun bt176 => (if x6_1.length < 1466015503701 then (flagstonedata_Samples.l0 kj3 a1 (x6_1 ++ [(⟨(⟨t166, (⟨#[97, 112, 112]⟩ : ByteArray), wrap64 ((x6_1.length : Int) + 1), (x6_1.length : Int), wrap64 (1 + bt167.1), wrap64 (1 + bt169.1)⟩ : S32), Int.tmod bt172.1 (wrap64 (a1 + 1)), bt174.1, bt176.1, false⟩ : S34)]) l0 bt176.2) else (none))))))))) = some r := by rw [if_pos rfl] at H; exact H
      clear H
      have H := H1
      clear H1
      replace H := Option.bind_eq_some_iff.mp H
      obtain ⟨t166, A110, H⟩ := H
      replace H : ((flagstonedata_Source_Next.f l0 x164001_3 2).bind fun bt167 => ((flagstonedata_Source_Next.f l0 bt167.2 2).bind fun bt169 => ((flagstonedata_Source_Next.f l0 bt169.2 256).bind fun bt172 => (if (wrap64 (a1 + 1)) = 0 then (none) else ((flagstonedata_Source_Next.f l0 bt172.2 9).bind fun bt174 => ((flagstonedata_Source_Next.f l0 bt174.2 5).bind fun bt176 => (if x6_1.length < 1466015503701 then (flagstonedata_Samples.l0 kj3 a1 (x6_1 ++ [(⟨(⟨t166, (⟨#[97, 112, 112]⟩ : ByteArray), wrap64 ((x6_1.length : Int) + 1), (x6_1.length : Int), wrap64 (1 + bt167.1), wrap64 (1 + bt169.1)⟩ : S32), Int.tmod bt172.1 (wrap64 (a1 + 1)), bt174.1, bt176.1, false⟩ : S34)]) l0 bt176.2) else (none)))))))) = some r := H
      have A11 := Aside0.mk A110
      clear A110
      replace H := Option.bind_eq_some_iff.mp H
      obtain ⟨⟨t167, t168⟩, A120, H⟩ := H
      replace H : ((flagstonedata_Source_Next.f l0 t168 2).bind fun bt169 => ((flagstonedata_Source_Next.f l0 bt169.2 256).bind fun bt172 => (if (wrap64 (a1 + 1)) = 0 then (none) else ((flagstonedata_Source_Next.f l0 bt172.2 9).bind fun bt174 => ((flagstonedata_Source_Next.f l0 bt174.2 5).bind fun bt176 => (if x6_1.length < 1466015503701 then (flagstonedata_Samples.l0 kj3 a1 (x6_1 ++ [(⟨(⟨t166, (⟨#[97, 112, 112]⟩ : ByteArray), wrap64 ((x6_1.length : Int) + 1), (x6_1.length : Int), wrap64 (1 + t167), wrap64 (1 + bt169.1)⟩ : S32), Int.tmod bt172.1 (wrap64 (a1 + 1)), bt174.1, bt176.1, false⟩ : S34)]) l0 bt176.2) else (none))))))) = some r := H
      have A12 := Aside0.mk A120
      clear A120
      replace H := Option.bind_eq_some_iff.mp H
      obtain ⟨⟨t169, t170⟩, A130, H⟩ := H
      replace H : ((flagstonedata_Source_Next.f l0 t170 256).bind fun bt172 => (if (wrap64 (a1 + 1)) = 0 then (none) else ((flagstonedata_Source_Next.f l0 bt172.2 9).bind fun bt174 => ((flagstonedata_Source_Next.f l0 bt174.2 5).bind fun bt176 => (if x6_1.length < 1466015503701 then (flagstonedata_Samples.l0 kj3 a1 (x6_1 ++ [(⟨(⟨t166, (⟨#[97, 112, 112]⟩ : ByteArray), wrap64 ((x6_1.length : Int) + 1), (x6_1.length : Int), wrap64 (1 + t167), wrap64 (1 + t169)⟩ : S32), Int.tmod bt172.1 (wrap64 (a1 + 1)), bt174.1, bt176.1, false⟩ : S34)]) l0 bt176.2) else (none)))))) = some r := H
      have A13 := Aside0.mk A130
      clear A130
      replace H := Option.bind_eq_some_iff.mp H
      obtain ⟨⟨t172, t173⟩, A140, H⟩ := H
      replace H : (if (wrap64 (a1 + 1)) = 0 then (none) else ((flagstonedata_Source_Next.f l0 t173 9).bind fun bt174 => ((flagstonedata_Source_Next.f l0 bt174.2 5).bind fun bt176 => (if x6_1.length < 1466015503701 then (flagstonedata_Samples.l0 kj3 a1 (x6_1 ++ [(⟨(⟨t166, (⟨#[97, 112, 112]⟩ : ByteArray), wrap64 ((x6_1.length : Int) + 1), (x6_1.length : Int), wrap64 (1 + t167), wrap64 (1 + t169)⟩ : S32), Int.tmod t172 (wrap64 (a1 + 1)), bt174.1, bt176.1, false⟩ : S34)]) l0 bt176.2) else (none))))) = some r := H
      have A14 := Aside0.mk A140
      clear A140
      by_cases c15 : (wrap64 (a1 + 1)) = 0
      ·rw [if_pos c15] at H
       exact absurd H (by simp)
      ·rw [if_neg c15] at H
       have c15b0 : ((wrap64 (a1 + 1)) == 0) = false := beq_eq_false_iff_ne.mpr c15
       have c15b1 : ((wrap64 (a1 + 1)) != 0) = true := bne_iff_ne.mpr c15
       replace H := Option.bind_eq_some_iff.mp H
       obtain ⟨⟨t174, t175⟩, A160, H⟩ := H
       replace H : ((flagstonedata_Source_Next.f l0 t175 5).bind fun bt176 => (if x6_1.length < 1466015503701 then (flagstonedata_Samples.l0 kj3 a1 (x6_1 ++ [(⟨(⟨t166, (⟨#[97, 112, 112]⟩ : ByteArray), wrap64 ((x6_1.length : Int) + 1), (x6_1.length : Int), wrap64 (1 + t167), wrap64 (1 + t169)⟩ : S32), Int.tmod t172 (wrap64 (a1 + 1)), t174, bt176.1, false⟩ : S34)]) l0 bt176.2) else (none))) = some r := H
       have A16 := Aside0.mk A160
       clear A160
       replace H := Option.bind_eq_some_iff.mp H
       obtain ⟨⟨t176, t177⟩, A170, H⟩ := H
       replace H : (if x6_1.length < 1466015503701 then (flagstonedata_Samples.l0 kj3 a1 (x6_1 ++ [(⟨(⟨t166, (⟨#[97, 112, 112]⟩ : ByteArray), wrap64 ((x6_1.length : Int) + 1), (x6_1.length : Int), wrap64 (1 + t167), wrap64 (1 + t169)⟩ : S32), Int.tmod t172 (wrap64 (a1 + 1)), t174, t176, false⟩ : S34)]) l0 t177) else (none)) = some r := H
       have A17 := Aside0.mk A170
       clear A170
       by_cases c18 : x6_1.length < 1466015503701
       ·rw [if_pos c18] at H
        have LMc18 := Aside0.mk c18
        clear c18
        obtain ⟨y178, hy178⟩ : ∃ y_ : List (S34), y_ = (x6_1 ++ [(⟨(⟨t166, (⟨#[97, 112, 112]⟩ : ByteArray), wrap64 ((x6_1.length : Int) + 1), (x6_1.length : Int), wrap64 (1 + t167), wrap64 (1 + t169)⟩ : S32), Int.tmod t172 (wrap64 (a1 + 1)), t174, t176, false⟩ : S34)]) := ⟨_, rfl⟩
        replace H : (flagstonedata_Samples.l0 kj3 a1 y178 l0 t177) = some r := by first | (rw [hy178]; with_reducible exact H) | (have H2_ := (Option.bind_some _ _).symm.trans H; rw [hy178]; with_reducible exact H2_) | (have H2_ := (Option.bind_some _ _).symm.trans H; with_reducible exact H2_) | with_reducible exact H | (rw [hy178]; exact H) | exact H
        have Ny178 := Aside0.mk hy178
        clear hy178
        have H' := Aside0.mk H
        clear H
        obtain ⟨Ao19, co19, eo19⟩ := Kd.R_slice HO_6.out
        subst eo19
        try go_wp2_with (first | ((with_reducible refine gate_callee (f := 26) rfl ?_); refine goesL_ (some 22) rfl rfl Try.func26 (by kernel_rfl) rfl #[.int .i64 (x6_1.length : Int)] rfl (by (try simp only [List.map_toArray, List.map_cons, List.map_nil]); first | done | rfl | (simp only [List.length_drop, List.length_take]; rfl)) ?_; (with_reducible refine (flagstonedata_Id.calls (x6_1.length : Int) t166 _ A11.out).mono ?_); rintro e w20 ⟨rfl, hb⟩; refine ⟨_, rfl, ?_⟩; have n0_ := Aside0.mk (Kd.R_below (by (with_reducible repeat (first | apply Kd.R_alloc | apply Kd.R_drewN | apply Kd.R_drew)); exact HO_6.out) hb); have n1_ := Aside0.mk (IsS58.below (by repeat (first | (with_reducible first | exact HI163.out | apply IsS58.alloc | apply IsS58.drewN | apply IsS58.drew | apply IsS58.set_1) | exact HI163.out)) hb); have n2_ := Aside0.mk (below_step (by repeat (first | (with_reducible first | exact HB.out | apply below_alloc | apply pw_below_drewN | apply below_drew1 | refine below_set ?_ (IsS58.ge HI163.out)) | exact HB.out)) hb); clear HO_6; clear HI163; clear HB; have HO_6 := n0_; have HI163 := n1_; have HB := n2_; clear n0_ n1_ n2_; (try clear hb); (try clear hb2); (try clear hk); (try clear hi)) | ((with_reducible refine gate_callee (f := 27) rfl ?_); refine goesL_ (some 27) rfl rfl Try.func27 (by kernel_rfl) rfl #[.pointer (some ⟨gb163, 0, none⟩), .int .i64 2] rfl (by (try simp only [List.map_toArray, List.map_cons, List.map_nil]); first | done | rfl | (simp only [List.length_drop, List.length_take]; rfl)) ?_; (with_reducible refine (flagstonedata_Source_Next.calls gb163 l0 x164001_3 2 t167 t168 w _ ?side1 ?side2 A12.out).mono ?_); (case side1 => repeat (first | (with_reducible first | exact HI163.out | apply IsS58.alloc | apply IsS58.drewN | apply IsS58.drew | apply IsS58.set_1) | exact HI163.out)); (case side2 => repeat (first | (with_reducible first | exact HB.out | apply below_alloc | apply pw_below_drewN | apply below_drew1 | refine below_set ?_ (IsS58.ge HI163.out)) | exact HB.out)); rintro e w21 ⟨rfl, hi, hb, hk⟩; refine ⟨_, rfl, ?_⟩; have n0_ := Aside0.mk (Kd.R_mono (Kd.R_keep (IsS58.apart (show IsS58 w _ gb163 l0 x164001_3 from by repeat (first | (with_reducible first | exact HI163.out | apply IsS58.alloc | apply IsS58.drewN | apply IsS58.drew | apply IsS58.set_1) | exact HI163.out)) (by (with_reducible repeat (first | apply Kd.R_alloc | apply Kd.R_drewN | apply Kd.R_drew)); exact HO_6.out) (by decide)) hk (fun _ h => h.2)) (fun _ h => h.1)); have n1_ := Aside0.mk (hb); have n2_ := Aside0.mk (hi); clear HO_6; clear HB; clear HI163; have HO_6 := n0_; have HB := n1_; have HI163 := n2_; clear n0_ n1_ n2_; (try clear hb); (try clear hb2); (try clear hk); (try clear hi)) | ((with_reducible refine gate_callee (f := 27) rfl ?_); refine goesL_ (some 30) rfl rfl Try.func27 (by kernel_rfl) rfl #[.pointer (some ⟨gb163, 0, none⟩), .int .i64 2] rfl (by (try simp only [List.map_toArray, List.map_cons, List.map_nil]); first | done | rfl | (simp only [List.length_drop, List.length_take]; rfl)) ?_; (with_reducible refine (flagstonedata_Source_Next.calls gb163 l0 t168 2 t169 t170 w _ ?side1 ?side2 A13.out).mono ?_); (case side1 => repeat (first | (with_reducible first | exact HI163.out | apply IsS58.alloc | apply IsS58.drewN | apply IsS58.drew | apply IsS58.set_1) | exact HI163.out)); (case side2 => repeat (first | (with_reducible first | exact HB.out | apply below_alloc | apply pw_below_drewN | apply below_drew1 | refine below_set ?_ (IsS58.ge HI163.out)) | exact HB.out)); rintro e w22 ⟨rfl, hi, hb, hk⟩; refine ⟨_, rfl, ?_⟩; have n0_ := Aside0.mk (Kd.R_mono (Kd.R_keep (IsS58.apart (show IsS58 w _ gb163 l0 t168 from by repeat (first | (with_reducible first | exact HI163.out | apply IsS58.alloc | apply IsS58.drewN | apply IsS58.drew | apply IsS58.set_1) | exact HI163.out)) (by (with_reducible repeat (first | apply Kd.R_alloc | apply Kd.R_drewN | apply Kd.R_drew)); exact HO_6.out) (by decide)) hk (fun _ h => h.2)) (fun _ h => h.1)); have n1_ := Aside0.mk (hb); have n2_ := Aside0.mk (hi); clear HO_6; clear HB; clear HI163; have HO_6 := n0_; have HB := n1_; have HI163 := n2_; clear n0_ n1_ n2_; (try clear hb); (try clear hb2); (try clear hk); (try clear hi)) | ((with_reducible refine gate_dst (N := 8) rfl ?_); (try (refine gate_guard (by rfl) ?_; dsimp only)); refine box_event ?hg (N := 8) ?hd (cs := #[.string (⟨#[]⟩ : ByteArray), .string (⟨#[]⟩ : ByteArray), .int .i64 0, .int .i64 0, .int .i64 0, .int .i64 0]) (t := 32) ?hr ?_; (case hd => rfl); (case hg => rfl); (case hr => first | (go_simp; done) | (go_simp; rfl)); intro gb171 hg w23 hbox hb; have n0_ := Aside0.mk (Kd.R_below (by (with_reducible repeat (first | apply Kd.R_alloc | apply Kd.R_drewN | apply Kd.R_drew)); exact HO_6.out) hb); have n1_ := Aside0.mk (IsS58.below (by repeat (first | (with_reducible first | exact HI163.out | apply IsS58.alloc | apply IsS58.drewN | apply IsS58.drew | apply IsS58.set_1) | exact HI163.out)) hb); have n2_ := Aside0.mk (below_step (by repeat (first | (with_reducible first | exact HB.out | apply below_alloc | apply pw_below_drewN | apply below_drew1 | refine below_set ?_ (IsS58.ge HI163.out)) | exact HB.out)) hb); have n3_ := Aside0.mk (hbox); have n4_ := Aside0.mk ((by rw [hg]; exact (below_size (by repeat (first | (with_reducible first | exact HB.out | apply below_alloc | apply pw_below_drewN | apply below_drew1 | refine below_set ?_ (IsS58.ge HI163.out)) | exact HB.out))) : w.heap.size ≤ gb171)); have n5_ := Aside0.mk ((by rw [hg]; exact (below_size (by repeat (first | (with_reducible first | exact HB.out | apply below_alloc | apply pw_below_drewN | apply below_drew1 | refine below_set ?_ (IsS58.ge HI163.out)) | exact HB.out))) : w.heap.size ≤ gb171)); have n6_ := Aside0.mk ((by rw [hg]; exact Nat.ne_of_lt (IsS58.lt (show IsS58 w _ gb163 l0 t170 from by repeat (first | (with_reducible first | exact HI163.out | apply IsS58.alloc | apply IsS58.drewN | apply IsS58.drew | apply IsS58.set_1) | exact HI163.out))) : gb163 ≠ gb171)); have n7_ := Aside0.mk ((by rw [hg]; exact Nat.ne_of_gt (IsS58.lt (show IsS58 w _ gb163 l0 t170 from by repeat (first | (with_reducible first | exact HI163.out | apply IsS58.alloc | apply IsS58.drewN | apply IsS58.drew | apply IsS58.set_1) | exact HI163.out))) : gb171 ≠ gb163)); clear HO_6; clear HI163; clear HB; have HO_6 := n0_; have HI163 := n1_; have HB := n2_; have BK171 := n3_; have GW171 := n4_; have GE171 := n5_; have NB163_171 := n6_; have NB171_163 := n7_; clear n0_ n1_ n2_ n3_ n4_ n5_ n6_ n7_; clear hb hbox hg; have hnb24 := NB171_163.out; have hnc24 := NB163_171.out; have hcz25_0 : w23.cell? ⟨gb171, 0, none⟩ = some (.string (⟨#[]⟩ : ByteArray)) := (blk_cell BK171.out 0).trans rfl; have hcz25_1 : w23.cell? ⟨gb171, 1, none⟩ = some (.string (⟨#[]⟩ : ByteArray)) := (blk_cell BK171.out 1).trans rfl; have hcz25_2 : w23.cell? ⟨gb171, 2, none⟩ = some (.int .i64 0) := (blk_cell BK171.out 2).trans rfl; have hcz25_3 : w23.cell? ⟨gb171, 3, none⟩ = some (.int .i64 0) := (blk_cell BK171.out 3).trans rfl; have hcz25_4 : w23.cell? ⟨gb171, 4, none⟩ = some (.int .i64 0) := (blk_cell BK171.out 4).trans rfl; have hcz25_5 : w23.cell? ⟨gb171, 5, none⟩ = some (.int .i64 0) := (blk_cell BK171.out 5).trans rfl; have hfz25_0 := blk_frozen BK171.out 0; have hfz25_1 := blk_frozen BK171.out 1; have hfz25_2 := blk_frozen BK171.out 2; have hfz25_3 := blk_frozen BK171.out 3; have hfz25_4 := blk_frozen BK171.out 4; have hfz25_5 := blk_frozen BK171.out 5))
        have n0_ : Aside0 (Kd.R k34 34 ((((((w23.setCell ⟨gb171, 0, none⟩ (.string t166)).setCell ⟨gb171, 1, none⟩ (.string (⟨#[97, 112, 112]⟩ : ByteArray))).setCell ⟨gb171, 2, none⟩ (.int .i64 (wrap64 ((x6_1.length : Int) + 1)))).setCell ⟨gb171, 3, none⟩ (.int .i64 (x6_1.length : Int))).setCell ⟨gb171, 4, none⟩ (.int .i64 (wrap64 (1 + t167)))).setCell ⟨gb171, 5, none⟩ (.int .i64 (wrap64 (1 + t169)))) w.heap.size (fun _ => True) (.slice Ao19 x6_1.length co19) x6_1) := ⟨by (with_reducible repeat (first | apply Kd.R_alloc | apply Kd.R_drewN | apply Kd.R_drew)); exact Kd.R_mono (Kd.R_far (p := ⟨gb171, 5, none⟩) (Kd.R_far (p := ⟨gb171, 4, none⟩) (Kd.R_far (p := ⟨gb171, 3, none⟩) (Kd.R_far (p := ⟨gb171, 2, none⟩) (Kd.R_far (p := ⟨gb171, 1, none⟩) (Kd.R_far (p := ⟨gb171, 0, none⟩) (Kd.R_types HO_6.out BK171.out (by decide)) (fun _ hk => hk.2) (.string t166)) (fun _ hk => hk.2) (.string (⟨#[97, 112, 112]⟩ : ByteArray))) (fun _ hk => hk.2) (.int .i64 (wrap64 ((x6_1.length : Int) + 1)))) (fun _ hk => hk.2) (.int .i64 (x6_1.length : Int))) (fun _ hk => hk.2) (.int .i64 (wrap64 (1 + t167)))) (fun _ hk => hk.2) (.int .i64 (wrap64 (1 + t169)))) (fun _ hk => trivial)⟩
        have n1_ : Aside0 (((((((w23.setCell ⟨gb171, 0, none⟩ (.string t166)).setCell ⟨gb171, 1, none⟩ (.string (⟨#[97, 112, 112]⟩ : ByteArray))).setCell ⟨gb171, 2, none⟩ (.int .i64 (wrap64 ((x6_1.length : Int) + 1)))).setCell ⟨gb171, 3, none⟩ (.int .i64 (x6_1.length : Int))).setCell ⟨gb171, 4, none⟩ (.int .i64 (wrap64 (1 + t167)))).setCell ⟨gb171, 5, none⟩ (.int .i64 (wrap64 (1 + t169)))).heap[gb171]? = some (.cells #[.string t166, .string (⟨#[97, 112, 112]⟩ : ByteArray), .int .i64 (wrap64 ((x6_1.length : Int) + 1)), .int .i64 (x6_1.length : Int), .int .i64 (wrap64 (1 + t167)), .int .i64 (wrap64 (1 + t169))] 32 (0, 0))) := ⟨by (with_reducible repeat (first | refine blk_drewN ?_ _ | refine blk_drew ?_ | refine blk_alloc ?_ _)); refine blk_put (cs := #[.string t166, .string (⟨#[97, 112, 112]⟩ : ByteArray), .int .i64 (wrap64 ((x6_1.length : Int) + 1)), .int .i64 (x6_1.length : Int), .int .i64 (wrap64 (1 + t167)), .int .i64 0]) ?_ 5 _ rfl; (with_reducible repeat (first | refine blk_drewN ?_ _ | refine blk_drew ?_ | refine blk_alloc ?_ _)); refine blk_put (cs := #[.string t166, .string (⟨#[97, 112, 112]⟩ : ByteArray), .int .i64 (wrap64 ((x6_1.length : Int) + 1)), .int .i64 (x6_1.length : Int), .int .i64 0, .int .i64 0]) ?_ 4 _ rfl; (with_reducible repeat (first | refine blk_drewN ?_ _ | refine blk_drew ?_ | refine blk_alloc ?_ _)); refine blk_put (cs := #[.string t166, .string (⟨#[97, 112, 112]⟩ : ByteArray), .int .i64 (wrap64 ((x6_1.length : Int) + 1)), .int .i64 0, .int .i64 0, .int .i64 0]) ?_ 3 _ rfl; (with_reducible repeat (first | refine blk_drewN ?_ _ | refine blk_drew ?_ | refine blk_alloc ?_ _)); refine blk_put (cs := #[.string t166, .string (⟨#[97, 112, 112]⟩ : ByteArray), .int .i64 0, .int .i64 0, .int .i64 0, .int .i64 0]) ?_ 2 _ rfl; (with_reducible repeat (first | refine blk_drewN ?_ _ | refine blk_drew ?_ | refine blk_alloc ?_ _)); refine blk_put (cs := #[.string t166, .string (⟨#[]⟩ : ByteArray), .int .i64 0, .int .i64 0, .int .i64 0, .int .i64 0]) ?_ 1 _ rfl; (with_reducible repeat (first | refine blk_drewN ?_ _ | refine blk_drew ?_ | refine blk_alloc ?_ _)); refine blk_put (cs := #[.string (⟨#[]⟩ : ByteArray), .string (⟨#[]⟩ : ByteArray), .int .i64 0, .int .i64 0, .int .i64 0, .int .i64 0]) ?_ 0 _ rfl; (with_reducible repeat (first | refine blk_drewN ?_ _ | refine blk_drew ?_ | refine blk_alloc ?_ _)); exact BK171.out⟩
        have n2_ : Aside0 (IsS58 w ((((((w23.setCell ⟨gb171, 0, none⟩ (.string t166)).setCell ⟨gb171, 1, none⟩ (.string (⟨#[97, 112, 112]⟩ : ByteArray))).setCell ⟨gb171, 2, none⟩ (.int .i64 (wrap64 ((x6_1.length : Int) + 1)))).setCell ⟨gb171, 3, none⟩ (.int .i64 (x6_1.length : Int))).setCell ⟨gb171, 4, none⟩ (.int .i64 (wrap64 (1 + t167)))).setCell ⟨gb171, 5, none⟩ (.int .i64 (wrap64 (1 + t169)))) gb163 l0 t170) := ⟨by repeat (first | (with_reducible first | exact HI163.out | apply IsS58.alloc | apply IsS58.drewN | apply IsS58.drew | apply IsS58.set_1 | refine IsS58.far ?_ NB163_171.out _) | exact HI163.out)⟩
        have n3_ : Aside0 (Below w.heap.size w ((((((w23.setCell ⟨gb171, 0, none⟩ (.string t166)).setCell ⟨gb171, 1, none⟩ (.string (⟨#[97, 112, 112]⟩ : ByteArray))).setCell ⟨gb171, 2, none⟩ (.int .i64 (wrap64 ((x6_1.length : Int) + 1)))).setCell ⟨gb171, 3, none⟩ (.int .i64 (x6_1.length : Int))).setCell ⟨gb171, 4, none⟩ (.int .i64 (wrap64 (1 + t167)))).setCell ⟨gb171, 5, none⟩ (.int .i64 (wrap64 (1 + t169))))) := ⟨by repeat (first | (with_reducible first | exact HB.out | apply below_alloc | apply pw_below_drewN | apply below_drew1 | refine below_set ?_ (IsS58.ge HI163.out) | refine below_set ?_ GE171.out) | exact HB.out)⟩
        (try clear HO_6)
        (try clear BK171)
        (try clear HI163)
        (try clear HB)
        generalize ((((((w23.setCell ⟨gb171, 0, none⟩ (.string t166)).setCell ⟨gb171, 1, none⟩ (.string (⟨#[97, 112, 112]⟩ : ByteArray))).setCell ⟨gb171, 2, none⟩ (.int .i64 (wrap64 ((x6_1.length : Int) + 1)))).setCell ⟨gb171, 3, none⟩ (.int .i64 (x6_1.length : Int))).setCell ⟨gb171, 4, none⟩ (.int .i64 (wrap64 (1 + t167)))).setCell ⟨gb171, 5, none⟩ (.int .i64 (wrap64 (1 + t169)))) = w26 at n0_ n1_ n2_ n3_ ⊢
        have HO_6 := n0_
        have BK171 := n1_
        have HI163 := n2_
        have HB := n3_
        clear n0_ n1_ n2_ n3_
        have n0_ := Aside0.mk (Kd.R_drew HO_6.out)
        have n1_ := Aside0.mk (blk_drew BK171.out)
        have n2_ := Aside0.mk (IsS58.drew HI163.out)
        have n3_ := Aside0.mk (below_drew1 HB.out)
        clear HO_6
        clear BK171
        clear HI163
        clear HB
        have HO_6 := n0_
        have BK171 := n1_
        have HI163 := n2_
        have HB := n3_
        clear n0_ n1_ n2_ n3_
        refine start_ (n := 15) (S := fun w' => w'.cell? ⟨gb171, 0, none⟩ = some (.string t166) ∧ w'.cell? ⟨gb171, 1, none⟩ = some (.string (⟨#[97, 112, 112]⟩ : ByteArray)) ∧ w'.cell? ⟨gb171, 2, none⟩ = some (.int .i64 (wrap64 ((x6_1.length : Int) + 1))) ∧ w'.cell? ⟨gb171, 3, none⟩ = some (.int .i64 (x6_1.length : Int)) ∧ w'.cell? ⟨gb171, 4, none⟩ = some (.int .i64 (wrap64 (1 + t167))) ∧ w'.cell? ⟨gb171, 5, none⟩ = some (.int .i64 (wrap64 (1 + t169)))) (ds := []) #[false, false, false, false, false, false, false, false, false, false, false, false, false, false, false] (by kernel_rfl) rfl rfl ⟨(blk_cell BK171.out 0).trans rfl, (blk_cell BK171.out 1).trans rfl, (blk_cell BK171.out 2).trans rfl, (blk_cell BK171.out 3).trans rfl, (blk_cell BK171.out 4).trans rfl, (blk_cell BK171.out 5).trans rfl⟩ (fun hHeld => ?_); refine with_tabW flagstonedata_Samples.tab6 flagstonedata_Samples.bits6 (fun HT_ HW_ => ?_)
        generalize w26.drew = w27 at HO_6 BK171 HI163 HB hHeld ⊢
        refine pure_ (i := 0) (N := some 33) (v := ?_) (a' := ?_) #[true, false, false, false, false, false, false, false, false, false, false, false, false, false, false] rfl rfl (any_of HT_.out (by kernel_rfl)) (fun _ _ _ h => h) (Or.inl ⟨by rfl, ?_⟩) ?_ ?_
        rotate_left
        ·intro w'
         go_simp
         with_reducible rfl
        rotate_left
        ·simp only [Act.put, List.setIfInBounds_toArray, List.set_cons_zero, List.set_cons_succ, i64_w, i32_w]
         rfl
        refine pure_ (i := 2) (N := some 35) (v := ?_) (a' := ?_) #[true, false, true, false, false, false, false, false, false, false, false, false, false, false, false] rfl rfl (any_of HT_.out (by kernel_rfl)) (fun _ _ _ h => h) (Or.inl ⟨by rfl, ?_⟩) ?_ ?_
        rotate_left
        ·intro w'
         go_simp
         with_reducible rfl
        rotate_left
        ·simp only [Act.put, List.setIfInBounds_toArray, List.set_cons_zero, List.set_cons_succ, i64_w, i32_w]
         rfl
        refine pure_ (i := 4) (N := some 37) (v := ?_) (a' := ?_) #[true, false, true, false, true, false, false, false, false, false, false, false, false, false, false] rfl rfl (any_of HT_.out (by kernel_rfl)) (fun _ _ _ h => h) (Or.inl ⟨by rfl, ?_⟩) ?_ ?_
        rotate_left
        ·intro w'
         go_simp
         with_reducible rfl
        rotate_left
        ·simp only [Act.put, List.setIfInBounds_toArray, List.set_cons_zero, List.set_cons_succ, i64_w, i32_w]
         rfl
        refine pure_ (i := 5) (N := some 38) (v := ?_) (a' := ?_) #[true, false, true, false, true, true, false, false, false, false, false, false, false, false, false] rfl rfl (any_of HT_.out (by kernel_rfl)) (fun _ _ _ h => h) (Or.inl ⟨by rfl, ?_⟩) ?_ ?_
        rotate_left
        ·intro w'
         go_simp
         with_reducible rfl
        rotate_left
        ·simp only [Act.put, List.setIfInBounds_toArray, List.set_cons_zero, List.set_cons_succ, i64_w, i32_w]
         rfl
        refine pure_ (i := 7) (N := some 40) (v := ?_) (a' := ?_) #[true, false, true, false, true, true, false, true, false, false, false, false, false, false, false] rfl rfl (any_of HT_.out (by kernel_rfl)) (fun _ _ _ h => h) (Or.inl ⟨by rfl, ?_⟩) ?_ ?_
        rotate_left
        ·intro w'
         go_simp
         with_reducible rfl
        rotate_left
        ·simp only [Act.put, List.setIfInBounds_toArray, List.set_cons_zero, List.set_cons_succ, i64_w, i32_w]
         rfl
        refine pure_ (i := 9) (N := some 42) (v := ?_) (a' := ?_) #[true, false, true, false, true, true, false, true, false, true, false, false, false, false, false] rfl rfl (any_of HT_.out (by kernel_rfl)) (fun _ _ _ h => h) (Or.inl ⟨by rfl, ?_⟩) ?_ ?_
        rotate_left
        ·intro w'
         go_simp
         with_reducible rfl
        rotate_left
        ·simp only [Act.put, List.setIfInBounds_toArray, List.set_cons_zero, List.set_cons_succ, i64_w, i32_w]
         rfl
        refine take_ (i := 1) (N := some 34) (v := ?_) (a' := ?_) #[true, true, true, false, true, true, false, true, false, true, false, false, false, false, false] rfl rfl (take_ofW HT_.out HW_.out (by kernel_rfl)) (fun _ _ _ h => h) (Or.inl ⟨by rfl, ?_⟩) hHeld ?_ ?_
        rotate_left
        ·rintro w' ⟨s0, s1, s2, s3, s4, s5⟩
         go_simp
         with_reducible rfl
        rotate_left
        ·simp only [Act.put, List.setIfInBounds_toArray, List.set_cons_zero, List.set_cons_succ, i64_w, i32_w]
         rfl
        refine one_ (i := 3) (N := some 36) #[true, true, true, true, true, true, false, true, false, true, false, false, false, false, false] rfl rfl (one_of HT_.out (by kernel_rfl)) (by decide) (fun K hK => ?_)
        refine goes_ Try.func27 (by kernel_rfl) rfl #[.pointer (some ⟨gb163, 0, none⟩), .int .i64 256] (by rfl) rfl rfl (by (try simp only [List.map_toArray, List.map_cons, List.map_nil]); first | done | rfl | (simp only [List.length_drop, List.length_take]; rfl)) ?_
        with_reducible refine (flagstonedata_Source_Next.calls gb163 l0 t170 256 t172 t173 w _ ?side1 ?side2 A14.out).mono ?_
        (case side1 => repeat (first | (with_reducible first | exact HI163.out | apply IsS58.alloc | apply IsS58.drewN | apply IsS58.drew | apply IsS58.set_1 | refine IsS58.far ?_ NB163_171.out _) | exact HI163.out))
        (case side2 => repeat (first | (with_reducible first | exact HB.out | apply below_alloc | apply pw_below_drewN | apply below_drew1 | refine below_set ?_ (IsS58.ge HI163.out) | refine below_set ?_ GE171.out) | exact HB.out))
        rintro e w28 ⟨rfl, hi, hb, hk⟩
        refine ⟨_, rfl, ?_⟩
        have n0_ := Aside0.mk (Kd.R_mono (Kd.R_keep (IsS58.apart (show IsS58 w _ gb163 l0 t170 from by repeat (first | (with_reducible first | exact HI163.out | apply IsS58.alloc | apply IsS58.drewN | apply IsS58.drew | apply IsS58.set_1 | refine IsS58.far ?_ NB163_171.out _) | exact HI163.out)) (by (with_reducible repeat (first | apply Kd.R_alloc | apply Kd.R_drewN | apply Kd.R_drew)); exact HO_6.out) (by decide)) hk (fun _ h => h.2)) (fun _ h => h.1))
        have n1_ := Aside0.mk (KeepBut.blk hk (g' := gb171) (o := .cells #[.string t166, .string (⟨#[97, 112, 112]⟩ : ByteArray), .int .i64 (wrap64 ((x6_1.length : Int) + 1)), .int .i64 (x6_1.length : Int), .int .i64 (wrap64 (1 + t167)), .int .i64 (wrap64 (1 + t169))] 32 (0, 0)) (by (with_reducible repeat (first | refine blk_drewN ?_ _ | refine blk_drew ?_ | refine blk_alloc ?_ _)); exact BK171.out) NB171_163.out (by simp))
        have n2_ := Aside0.mk (hb)
        have n3_ := Aside0.mk (hi)
        clear HO_6
        clear BK171
        clear HB
        clear HI163
        have HO_6 := n0_
        have BK171 := n1_
        have HB := n2_
        have HI163 := n3_
        clear n0_ n1_ n2_ n3_
        (try clear hb)
        (try clear hb2)
        (try clear hk)
        (try clear hi)
        refine hK.out _ _ ⟨(blk_cell BK171.out 0).trans rfl, (blk_cell BK171.out 1).trans rfl, (blk_cell BK171.out 2).trans rfl, (blk_cell BK171.out 3).trans rfl, (blk_cell BK171.out 4).trans rfl, (blk_cell BK171.out 5).trans rfl⟩ (fun hHeld => ?_)
        clear hK K
        refine norm_ (a' := ?_) ?_ ?_
        rotate_left
        ·show Act.put _ (some 36) _ = _
         simp only [Act.put, List.setIfInBounds_toArray, List.set_cons_zero, List.set_cons_succ, i64_w, i32_w]
         rfl
        refine pure_ (i := 6) (N := some 39) (v := ?_) (a' := ?_) #[true, true, true, true, true, true, true, true, false, true, false, false, false, false, false] rfl rfl (any_of HT_.out (by kernel_rfl)) (fun _ _ _ h => h) (Or.inl ⟨by rfl, ?_⟩) ?_ ?_
        rotate_left
        ·intro w'
         go_simp
         with_reducible rfl
        rotate_left
        ·simp only [Act.put, List.setIfInBounds_toArray, List.set_cons_zero, List.set_cons_succ, i64_w, i32_w]
         rfl
        refine one_ (i := 8) (N := some 41) #[true, true, true, true, true, true, true, true, true, true, false, false, false, false, false] rfl rfl (one_of HT_.out (by kernel_rfl)) (by decide) (fun K hK => ?_)
        refine goes_ Try.func27 (by kernel_rfl) rfl #[.pointer (some ⟨gb163, 0, none⟩), .int .i64 9] (by rfl) rfl rfl (by (try simp only [List.map_toArray, List.map_cons, List.map_nil]); first | done | rfl | (simp only [List.length_drop, List.length_take]; rfl)) ?_
        with_reducible refine (flagstonedata_Source_Next.calls gb163 l0 t173 9 t174 t175 w _ ?side1 ?side2 A16.out).mono ?_
        (case side1 => repeat (first | (with_reducible first | exact HI163.out | apply IsS58.alloc | apply IsS58.drewN | apply IsS58.drew | apply IsS58.set_1 | refine IsS58.far ?_ NB163_171.out _) | exact HI163.out))
        (case side2 => repeat (first | (with_reducible first | exact HB.out | apply below_alloc | apply pw_below_drewN | apply below_drew1 | refine below_set ?_ (IsS58.ge HI163.out) | refine below_set ?_ GE171.out) | exact HB.out))
        rintro e w29 ⟨rfl, hi, hb, hk⟩
        refine ⟨_, rfl, ?_⟩
        have n0_ := Aside0.mk (Kd.R_mono (Kd.R_keep (IsS58.apart (show IsS58 w _ gb163 l0 t173 from by repeat (first | (with_reducible first | exact HI163.out | apply IsS58.alloc | apply IsS58.drewN | apply IsS58.drew | apply IsS58.set_1 | refine IsS58.far ?_ NB163_171.out _) | exact HI163.out)) (by (with_reducible repeat (first | apply Kd.R_alloc | apply Kd.R_drewN | apply Kd.R_drew)); exact HO_6.out) (by decide)) hk (fun _ h => h.2)) (fun _ h => h.1))
        have n1_ := Aside0.mk (KeepBut.blk hk (g' := gb171) (o := .cells #[.string t166, .string (⟨#[97, 112, 112]⟩ : ByteArray), .int .i64 (wrap64 ((x6_1.length : Int) + 1)), .int .i64 (x6_1.length : Int), .int .i64 (wrap64 (1 + t167)), .int .i64 (wrap64 (1 + t169))] 32 (0, 0)) (by (with_reducible repeat (first | refine blk_drewN ?_ _ | refine blk_drew ?_ | refine blk_alloc ?_ _)); exact BK171.out) NB171_163.out (by simp))
        have n2_ := Aside0.mk (hb)
        have n3_ := Aside0.mk (hi)
        clear HO_6
        clear BK171
        clear HB
        clear HI163
        have HO_6 := n0_
        have BK171 := n1_
        have HB := n2_
        have HI163 := n3_
        clear n0_ n1_ n2_ n3_
        (try clear hb)
        (try clear hb2)
        (try clear hk)
        (try clear hi)
        refine hK.out _ _ ⟨(blk_cell BK171.out 0).trans rfl, (blk_cell BK171.out 1).trans rfl, (blk_cell BK171.out 2).trans rfl, (blk_cell BK171.out 3).trans rfl, (blk_cell BK171.out 4).trans rfl, (blk_cell BK171.out 5).trans rfl⟩ (fun hHeld => ?_)
        clear hK K
        refine norm_ (a' := ?_) ?_ ?_
        rotate_left
        ·show Act.put _ (some 41) _ = _
         simp only [Act.put, List.setIfInBounds_toArray, List.set_cons_zero, List.set_cons_succ, i64_w, i32_w]
         rfl
        refine one_ (i := 10) (N := some 43) #[true, true, true, true, true, true, true, true, true, true, true, false, false, false, false] rfl rfl (one_of HT_.out (by kernel_rfl)) (by decide) (fun K hK => ?_)
        refine goes_ Try.func27 (by kernel_rfl) rfl #[.pointer (some ⟨gb163, 0, none⟩), .int .i64 5] (by rfl) rfl rfl (by (try simp only [List.map_toArray, List.map_cons, List.map_nil]); first | done | rfl | (simp only [List.length_drop, List.length_take]; rfl)) ?_
        with_reducible refine (flagstonedata_Source_Next.calls gb163 l0 t175 5 t176 t177 w _ ?side1 ?side2 A17.out).mono ?_
        (case side1 => repeat (first | (with_reducible first | exact HI163.out | apply IsS58.alloc | apply IsS58.drewN | apply IsS58.drew | apply IsS58.set_1 | refine IsS58.far ?_ NB163_171.out _) | exact HI163.out))
        (case side2 => repeat (first | (with_reducible first | exact HB.out | apply below_alloc | apply pw_below_drewN | apply below_drew1 | refine below_set ?_ (IsS58.ge HI163.out) | refine below_set ?_ GE171.out) | exact HB.out))
        rintro e w30 ⟨rfl, hi, hb, hk⟩
        refine ⟨_, rfl, ?_⟩
        have n0_ := Aside0.mk (Kd.R_mono (Kd.R_keep (IsS58.apart (show IsS58 w _ gb163 l0 t175 from by repeat (first | (with_reducible first | exact HI163.out | apply IsS58.alloc | apply IsS58.drewN | apply IsS58.drew | apply IsS58.set_1 | refine IsS58.far ?_ NB163_171.out _) | exact HI163.out)) (by (with_reducible repeat (first | apply Kd.R_alloc | apply Kd.R_drewN | apply Kd.R_drew)); exact HO_6.out) (by decide)) hk (fun _ h => h.2)) (fun _ h => h.1))
        have n1_ := Aside0.mk (KeepBut.blk hk (g' := gb171) (o := .cells #[.string t166, .string (⟨#[97, 112, 112]⟩ : ByteArray), .int .i64 (wrap64 ((x6_1.length : Int) + 1)), .int .i64 (x6_1.length : Int), .int .i64 (wrap64 (1 + t167)), .int .i64 (wrap64 (1 + t169))] 32 (0, 0)) (by (with_reducible repeat (first | refine blk_drewN ?_ _ | refine blk_drew ?_ | refine blk_alloc ?_ _)); exact BK171.out) NB171_163.out (by simp))
        have n2_ := Aside0.mk (hb)
        have n3_ := Aside0.mk (hi)
        clear HO_6
        clear BK171
        clear HB
        clear HI163
        have HO_6 := n0_
        have BK171 := n1_
        have HB := n2_
        have HI163 := n3_
        clear n0_ n1_ n2_ n3_
        (try clear hb)
        (try clear hb2)
        (try clear hk)
        (try clear hi)
        refine hK.out _ _ ⟨(blk_cell BK171.out 0).trans rfl, (blk_cell BK171.out 1).trans rfl, (blk_cell BK171.out 2).trans rfl, (blk_cell BK171.out 3).trans rfl, (blk_cell BK171.out 4).trans rfl, (blk_cell BK171.out 5).trans rfl⟩ (fun hHeld => ?_)
        clear hK K
        refine norm_ (a' := ?_) ?_ ?_
        rotate_left
        ·show Act.put _ (some 43) _ = _
         simp only [Act.put, List.setIfInBounds_toArray, List.set_cons_zero, List.set_cons_succ, i64_w, i32_w]
         rfl
        refine pure_ (i := 11) (N := some 44) (v := ?_) (a' := ?_) #[true, true, true, true, true, true, true, true, true, true, true, true, false, false, false] rfl rfl (any_of HT_.out (by kernel_rfl)) (fun _ _ _ h => h) (Or.inl ⟨by rfl, ?_⟩) ?_ ?_
        rotate_left
        ·intro w'
         go_simp
         with_reducible rfl
        rotate_left
        ·simp only [Act.put, List.setIfInBounds_toArray, List.set_cons_zero, List.set_cons_succ, i64_w, i32_w]
         rfl
        refine one_ (i := 12) (N := some 45) #[true, true, true, true, true, true, true, true, true, true, true, true, true, false, false] rfl rfl (one_of HT_.out (by kernel_rfl)) (by decide) (fun K hK => ?_)
        refine value_ (w1 := ?_) (v := ?_) (by rfl) rfl ?_ ?_
        rotate_left 2
        ·go_simp
         constructor
         ·rfl
         ·rfl
        refine hK.out _ _ ⟨(blk_cell (blk_alloc BK171.out _) 0).trans rfl, (blk_cell (blk_alloc BK171.out _) 1).trans rfl, (blk_cell (blk_alloc BK171.out _) 2).trans rfl, (blk_cell (blk_alloc BK171.out _) 3).trans rfl, (blk_cell (blk_alloc BK171.out _) 4).trans rfl, (blk_cell (blk_alloc BK171.out _) 5).trans rfl⟩ (fun hHeld => ?_)
        clear hK K
        refine norm_ (a' := ?_) ?_ ?_
        rotate_left
        ·show Act.put _ (some 45) _ = _
         simp only [Act.put, List.setIfInBounds_toArray, List.set_cons_zero, List.set_cons_succ, i64_w, i32_w]
         rfl
        refine one_ (i := 13) (N := some 46) #[true, true, true, true, true, true, true, true, true, true, true, true, true, true, false] rfl rfl (one_of HT_.out (by kernel_rfl)) (by decide) (fun K hK => ?_)
        refine Kd.R_append_step k34 (w0 := w) w.heap.size (by rfl) (.tmp 33) (.tmp 45) 25 34 (.agg #[(.string ⟨#[]⟩), (.string ⟨#[]⟩), (.int .i64 0), (.int .i64 0), (.int .i64 0), (.int .i64 0), (.int .i64 0), (.int .i64 0), (.int .i64 0), (.bool false)]) 96 rfl Try.underlying25 info34 rfl (by decide) (by omega) (.slice Ao19 x6_1.length co19) x6_1 (⟨(⟨t166, (⟨#[97, 112, 112]⟩ : ByteArray), wrap64 ((x6_1.length : Int) + 1), (x6_1.length : Int), wrap64 (1 + t167), wrap64 (1 + t169)⟩ : S32), Int.tmod t172 (wrap64 (a1 + 1)), t174, t176, false⟩ : S34) [.string t166, .string (⟨#[97, 112, 112]⟩ : ByteArray), .int .i64 (wrap64 ((x6_1.length : Int) + 1)), .int .i64 (x6_1.length : Int), .int .i64 (wrap64 (1 + t167)), .int .i64 (wrap64 (1 + t169)), .int .i64 (Int.tmod t172 (wrap64 (a1 + 1))), .int .i64 t174, .int .i64 t176, .bool false] (fun _ => True) (fun _ => False) rfl rfl ?aP (fun _ hk => hk.elim) ?aF ?aO ?aB ?aS ?aL ?_
        (case aP => exact k34_mkM _ _ _ (⟨(⟨t166, (⟨#[97, 112, 112]⟩ : ByteArray), wrap64 ((x6_1.length : Int) + 1), (x6_1.length : Int), wrap64 (1 + t167), wrap64 (1 + t169)⟩ : S32), Int.tmod t172 (wrap64 (a1 + 1)), t174, t176, false⟩ : S34))
        (case aB => exact (by repeat (first | (with_reducible first | exact HB.out | apply below_alloc | apply pw_below_drewN | apply below_drew1 | refine below_set ?_ (IsS58.ge HI163.out) | refine below_set ?_ GE171.out) | exact HB.out)))
        (case aF => exact (fun _ _ => trivial))
        (case aO => exact (by (with_reducible repeat (first | apply Kd.R_alloc | apply Kd.R_drewN | apply Kd.R_drew)); exact HO_6.out))
        (case aS => exact (below_size (by repeat (first | (with_reducible first | exact HB.out | apply below_alloc | apply pw_below_drewN | apply below_drew1 | refine below_set ?_ (IsS58.ge HI163.out) | refine below_set ?_ GE171.out) | exact HB.out))))
        (case aL => have := LMc18.out; omega)
        intro v179 w31 ho hb hg hat
        rw [← Ny178.out] at ho
        have n0_ := Aside0.mk (IsS58.grown (by repeat (first | (with_reducible first | exact HI163.out | apply IsS58.alloc | apply IsS58.drewN | apply IsS58.drew | apply IsS58.set_1 | refine IsS58.far ?_ NB163_171.out _) | exact HI163.out)) hg (IsS58.own_ne HI163.out HO_6.out (by decide)))
        have n1_ := Aside0.mk (blk_grown (g := gb171) (o := .cells #[.string t166, .string (⟨#[97, 112, 112]⟩ : ByteArray), .int .i64 (wrap64 ((x6_1.length : Int) + 1)), .int .i64 (x6_1.length : Int), .int .i64 (wrap64 (1 + t167)), .int .i64 (wrap64 (1 + t169))] 32 (0, 0)) (by (with_reducible repeat (first | refine blk_drewN ?_ _ | refine blk_drew ?_ | refine blk_alloc ?_ _)); exact BK171.out) hg (Kd.R_ne HO_6.out BK171.out (by decide)))
        have n2_ := Aside0.mk (hb)
        have n3_ := Aside0.mk (ho)
        clear HI163
        clear BK171
        clear HB
        clear HO_6
        have HI163 := n0_
        have BK171 := n1_
        have HB := n2_
        have HO180 := n3_
        clear n0_ n1_ n2_ n3_
        clear ho hb hg hat
        refine hK.out _ _ ⟨(blk_cell BK171.out 0).trans rfl, (blk_cell BK171.out 1).trans rfl, (blk_cell BK171.out 2).trans rfl, (blk_cell BK171.out 3).trans rfl, (blk_cell BK171.out 4).trans rfl, (blk_cell BK171.out 5).trans rfl⟩ (fun hHeld => ?_)
        clear hK K
        refine norm_ (a' := ?_) ?_ ?_
        rotate_left
        ·show Act.put _ (some 46) _ = _
         simp only [Act.put, List.setIfInBounds_toArray, List.set_cons_zero, List.set_cons_succ, i64_w, i32_w]
         rfl
        refine pure_ (i := 14) (N := some 6) (v := ?_) (a' := ?_) #[true, true, true, true, true, true, true, true, true, true, true, true, true, true, true] rfl rfl (any_of HT_.out (by kernel_rfl)) (fun _ _ _ h => h) (Or.inl ⟨by rfl, ?_⟩) ?_ ?_
        rotate_left
        ·intro w'
         go_simp
         with_reducible rfl
        rotate_left
        ·simp only [Act.put, List.setIfInBounds_toArray, List.set_cons_zero, List.set_cons_succ, i64_w, i32_w]
         rfl
        refine done_ (done_of HT_.out (by kernel_rfl)) ?_
        try go_wp2
        go_roundg kj3
        case measure => have := HK1.out; have := HJ3.out; omega
        case rel => exact ⟨(y178), (t177), H', ⟨by have := HK1.out; have := HJ3.out; omega⟩, ⟨by (with_reducible repeat (first | apply Kd.R_alloc | apply Kd.R_drewN | apply Kd.R_drew)); exact HO180.out⟩, ⟨by repeat (first | (with_reducible first | exact HI163.out | apply IsS58.alloc | apply IsS58.drewN | apply IsS58.drew | apply IsS58.set_1 | refine IsS58.far ?_ NB163_171.out _) | exact HI163.out)⟩, ⟨by repeat (first | (with_reducible first | exact HB.out | apply below_alloc | apply pw_below_drewN | apply below_drew1 | refine below_set ?_ (IsS58.ge HI163.out) | refine below_set ?_ GE171.out) | exact HB.out)⟩⟩
       ·rw [if_neg c18] at H
        exact absurd H (by simp)
     ·replace c10 := Bool.eq_false_iff.mpr c10
      subst c10
      have H1 : (some x6_1) = some r := by rw [if_neg (show ¬ (false = true) by decide)] at H; exact H
      clear H
      have H := H1
      clear H1
      obtain rfl := Option.some.inj H
      go_wp2
      go_ret
      exact ⟨_, by first | rfl | (simp [errW_none, errW_some] <;> rfl) | (simp [*, errW_none, errW_some] <;> rfl), by (with_reducible repeat (first | apply Kd.R_alloc | apply Kd.R_drewN | apply Kd.R_drew)); exact HO_6.out, by repeat (first | (with_reducible first | exact HB.out | apply below_alloc | apply pw_below_drewN | apply below_drew1 | refine below_set ?_ (IsS58.ge HI163.out)) | exact HB.out)⟩

/-! ### flagstoneref39_Class: function 14 -/
def flagstoneref39_Class.l0 : Nat → Int → Int → Option (Int)
 | 0, _, _ => none
 | k + 1, x0, x3 => if x0 > 0 then (flagstoneref39_Class.l0 k (wrap64 (Int.tdiv x0 2)) (wrap64 (x3 + 1))) else (some x3)
def flagstoneref39_Class.f (k : Nat) (a0 : Int) : Option (Int) := flagstoneref39_Class.l0 k a0 0
theorem flagstoneref39_Class.mono_l : ∀ k, (∀ y0 y1, LeO (flagstoneref39_Class.l0 k y0 y1) (flagstoneref39_Class.l0 (k + 1) y0 y1))
 | 0 => fun _ _ r h => by simp [flagstoneref39_Class.l0] at h
 | k + 1 => by
  have ih0 := flagstoneref39_Class.mono_l k
  ·intro y0 y1
   unfold flagstoneref39_Class.l0
   repeat' first
   | (with_reducible exact ih0 _ _)
   | (with_reducible exact LeO.refl _)
   | (with_reducible exact LeO.none _)
   | (with_reducible refine LeO.ite ?_ ?_)
   | (with_reducible refine LeO.bind ?_ (fun _ => ?_))
   | exact ih0 _ _
   | exact LeO.none _
   | refine LeO.ite ?_ ?_
   | refine LeO.bind ?_ (fun _ => ?_)
theorem flagstoneref39_Class.mono : ∀ a0 k, LeO (flagstoneref39_Class.f k a0) (flagstoneref39_Class.f (k + 1) a0) := by
 intro a0 k
 have ih0 := flagstoneref39_Class.mono_l k
 unfold flagstoneref39_Class.f
 repeat' first
   | (with_reducible exact ih0 _ _)
   | (with_reducible exact LeO.refl _)
   | (with_reducible exact LeO.none _)
   | (with_reducible refine LeO.ite ?_ ?_)
   | (with_reducible refine LeO.bind ?_ (fun _ => ?_))
   | exact ih0 _ _
   | exact LeO.none _
   | refine LeO.ite ?_ ?_
   | refine LeO.bind ?_ (fun _ => ?_)
set_option maxHeartbeats 8000000 in
set_option maxRecDepth 100000 in
theorem flagstoneref39_Class.calls (k : Nat) (a0 : Int) (r : Int) (w : World) (h : flagstoneref39_Class.f k a0 = some r) :
  Calls Try.prog 14 #[.int .i64 a0] w fun e w' => e = .returned (.int .i64 r) ∧ Drawn0 w w' := by
 have H : (flagstoneref39_Class.l0 k a0 0) = some r := h
 clear h
 have H' := Aside0.mk H
 clear H
 go_enter Try.func14, Try.ntmps14
 go_wp2
 go_loopg [0, 3] k (fun kq v0 v3 w' => ∃ (x0_1 : Int) (x3_1 : Int), v0 = .int .i64 x0_1 ∧ v3 = .int .i64 x3_1 ∧ Aside0 (flagstoneref39_Class.l0 kq x0_1 x3_1 = some r) ∧ Aside0 (kq ≤ k) ∧ Drawn0 w w')
 case atStart => exact ⟨(a0), (0), (by first | rfl | (simp; done) | (simp [*]; done) | exact congrArg (Value.int _) (by unfold wrap64; omega)), (by first | rfl | (simp; done) | (simp [*]; done) | exact congrArg (Value.int _) (by unfold wrap64; omega)), H', ⟨Nat.le_refl _⟩, by repeat (first | exact Drawn0.refl _ | apply Drawn0.step)⟩
 case round =>
  clear H'
  try clear c1
  obtain ⟨x0_1, x3_1, rfl, rfl, HA, HK1, ⟨m1, rfl⟩⟩ := hrel
  cases gk with
  | zero => exact absurd HA.out (by simp [flagstoneref39_Class.l0])
  | succ k1 =>
   have H := HA.out
   clear HA
   simp only [flagstoneref39_Class.l0] at H
   by_cases c2 : x0_1 > 0
   ·rw [if_pos c2] at H
    have c2b0 : decide (0 < x0_1) = true := decide_eq_true c2
    clear c2
    have H' := Aside0.mk H
    clear H
    go_wp2
    go_roundg k1
    case measure => have := HK1.out; omega
    case rel => exact ⟨(wrap64 (Int.tdiv x0_1 2)), (wrap64 (x3_1 + 1)), (by first | rfl | (simp; done) | (simp [*]; done) | exact congrArg (Value.int _) (by unfold wrap64; omega)), (by first | rfl | (simp; done) | (simp [*]; done) | exact congrArg (Value.int _) (by unfold wrap64; omega)), H', ⟨by have := HK1.out; omega⟩, by repeat (first | exact Drawn0.refl _ | apply Drawn0.step)⟩
   ·rw [if_neg c2] at H
    have c2b0 : decide (0 < x0_1) = false := decide_eq_false c2
    clear c2
    obtain rfl := Option.some.inj H
    go_wp2
    go_ret
    exact ⟨by first | rfl | (simp; done) | (simp [*]; done), by repeat (first | exact Drawn0.refl _ | apply Drawn0.step)⟩

end Go.Proofs.Ytdmhdbebjjhopaa.PA
