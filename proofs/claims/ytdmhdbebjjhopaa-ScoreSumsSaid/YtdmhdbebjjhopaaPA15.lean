-- Written by a program of this seat's session (wip/tools/ownprint.py, over the kit's printer) out of the translation: functions and their contracts.
import Derived.Test.YtdmhdbebjjhopaaPA0
import Derived.Test.YtdmhdbebjjhopaaPA6
import Derived.Test.YtdmhdbebjjhopaaPA13
namespace Go.Proofs.Ytdmhdbebjjhopaa.PA
open Go.RowKit Go.Proofs.YtdmhdbebjjhopaaW.PrintWords Go.Proofs.YtdmhdbebjjhopaaW.PrintLast Go.Proofs.YtdmhdbebjjhopaaW.PrintMore
attribute [local go_sem] max2_int min2_int max_two min_two max_three min_three max_four min_four   -- for this text's walks alone
set_option linter.unusedVariables false
set_option linter.unusedSimpArgs false

/-! ### flagstonelaw39_ScoreSums: function 10 -/
def flagstonelaw39_ScoreSums.l0 : Nat → List (S34) → Int → Int → List (S37) → Int → Int → Int → Option (Bool)
 | 0, _, _, _, _, _, _, _ => none
 | k + 1, x7, x8, x9, x11, x12, x13, x14 => if x14 < (x7.length : Int) then (if 0 ≤ x14 then (if x14 < (x11.length : Int) then (if ((rd_T37 x11 x14).f1) = (wrap64 ((wrap64 (x8 * x9)) * 100)) then (if ((rd_T34 x7 x14).f0.f4) = 2 then (flagstonelaw39_ScoreSums.l0 k x7 x8 x9 x11 (wrap64 (x12 + ((rd_T37 x11 x14).f0))) (wrap64 (x13 + (wrap64 ((wrap64 ((wrap64 (x8 + x9)) * x8)) * ((rd_T34 x7 x14).f1))))) (wrap64 (x14 + 1))) else (flagstonelaw39_ScoreSums.l0 k x7 x8 x9 x11 (wrap64 (x12 + ((rd_T37 x11 x14).f0))) (wrap64 (x13 - (wrap64 ((wrap64 ((wrap64 (x8 + x9)) * x9)) * ((rd_T34 x7 x14).f1))))) (wrap64 (x14 + 1)))) else (some false)) else (none)) else (none)) else (some (x12 == x13))
def flagstonelaw39_ScoreSums.f (k : Nat) (l0 : List Int) (a1 : Int) (a2 : Int) : Option (Bool) := (flagstonelaw39_awake.f k).bind fun t332 => (if t332 = true then (if (l0.length : Int) > 200 then (some true) else ((flagstonedata_Samples.f k l0 100).bind fun t333 => ((score_All.f k t333 (([(⟨1, wrap64 (1 + (Int.tmod (wrap64 (a1)) 50)), wrap64 (1 + (Int.tmod (wrap64 (a2)) 50))⟩ : S42), (⟨2, wrap64 (1 + (Int.tmod (wrap64 (a1)) 50)), wrap64 (1 + (Int.tmod (wrap64 (a2)) 50))⟩ : S42)] : List (S42))) 100 false).bind fun t339 => (if (t339.length : Int) = (t333.length : Int) then (flagstonelaw39_ScoreSums.l0 k t333 (wrap64 (1 + (Int.tmod (wrap64 (a1)) 50))) (wrap64 (1 + (Int.tmod (wrap64 (a2)) 50))) t339 0 0 0) else (some false))))) else (some false))
theorem flagstonelaw39_ScoreSums.mono_l : ∀ k, (∀ y0 y1 y2 y3 y4 y5 y6, LeO (flagstonelaw39_ScoreSums.l0 k y0 y1 y2 y3 y4 y5 y6) (flagstonelaw39_ScoreSums.l0 (k + 1) y0 y1 y2 y3 y4 y5 y6))
 | 0 => fun _ _ _ _ _ _ _ r h => by simp [flagstonelaw39_ScoreSums.l0] at h
 | k + 1 => by
  have ih0 := flagstonelaw39_ScoreSums.mono_l k
  ·intro y0 y1 y2 y3 y4 y5 y6
   unfold flagstonelaw39_ScoreSums.l0
   repeat' first
   | (with_reducible exact ih0 _ _ _ _ _ _ _)
   | (with_reducible exact flagstonedata_Samples.mono _ _ _)
   | (with_reducible exact flagstonelaw39_awake.mono _)
   | (with_reducible exact score_All.mono _ _ _ _ _)
   | (with_reducible exact LeO.refl _)
   | (with_reducible exact LeO.none _)
   | (with_reducible refine LeO.ite ?_ ?_)
   | (with_reducible refine LeO.bind ?_ (fun _ => ?_))
   | exact ih0 _ _ _ _ _ _ _
   | exact flagstonedata_Samples.mono _ _ _
   | exact flagstonelaw39_awake.mono _
   | exact score_All.mono _ _ _ _ _
   | exact LeO.none _
   | refine LeO.ite ?_ ?_
   | refine LeO.bind ?_ (fun _ => ?_)
theorem flagstonelaw39_ScoreSums.mono : ∀ a0 a1 a2 k, LeO (flagstonelaw39_ScoreSums.f k a0 a1 a2) (flagstonelaw39_ScoreSums.f (k + 1) a0 a1 a2) := by
 intro a0 a1 a2 k
 have ih0 := flagstonelaw39_ScoreSums.mono_l k
 unfold flagstonelaw39_ScoreSums.f
 repeat' first
   | (with_reducible exact ih0 _ _ _ _ _ _ _)
   | (with_reducible exact flagstonedata_Samples.mono _ _ _)
   | (with_reducible exact flagstonelaw39_awake.mono _)
   | (with_reducible exact score_All.mono _ _ _ _ _)
   | (with_reducible exact LeO.refl _)
   | (with_reducible exact LeO.none _)
   | (with_reducible refine LeO.ite ?_ ?_)
   | (with_reducible refine LeO.bind ?_ (fun _ => ?_))
   | exact ih0 _ _ _ _ _ _ _
   | exact flagstonedata_Samples.mono _ _ _
   | exact flagstonelaw39_awake.mono _
   | exact score_All.mono _ _ _ _ _
   | exact LeO.none _
   | refine LeO.ite ?_ ?_
   | refine LeO.bind ?_ (fun _ => ?_)
set_option maxHeartbeats 8000000 in
set_option maxRecDepth 100000 in
theorem flagstonelaw39_ScoreSums.calls (k : Nat) (A0 : Option Addr) (c0 : Nat) (l0 : List Int) (a1 : Int) (a2 : Int) (r : Bool) (w : World) (hr0 : Kd.C (Kd.int .u8) w A0 l0.length l0) (hc0 : l0.length ≤ c0) (h : flagstonelaw39_ScoreSums.f k l0 a1 a2 = some r) :
  Calls Try.prog 10 #[.slice A0 l0.length c0, .int .u8 a1, .int .u8 a2] w fun e w' => e = .returned (.bool r) ∧ Below w.heap.size w w' := by
 have hu42 := Try.underlying42
 have HR0 := Aside0.mk hr0
 have HC0 := Aside0.mk hc0
 clear hr0 hc0
 have HB := Aside0.mk (Below.refl w.heap.size w)
 have H : ((flagstonelaw39_awake.f k).bind fun t332 => (if t332 = true then (if (l0.length : Int) > 200 then (some true) else ((flagstonedata_Samples.f k l0 100).bind fun t333 => ((score_All.f k t333 (([(⟨1, wrap64 (1 + (Int.tmod (wrap64 (a1)) 50)), wrap64 (1 + (Int.tmod (wrap64 (a2)) 50))⟩ : S42), (⟨2, wrap64 (1 + (Int.tmod (wrap64 (a1)) 50)), wrap64 (1 + (Int.tmod (wrap64 (a2)) 50))⟩ : S42)] : List (S42))) 100 false).bind fun t339 => (if (t339.length : Int) = (t333.length : Int) then (flagstonelaw39_ScoreSums.l0 k t333 (wrap64 (1 + (Int.tmod (wrap64 (a1)) 50))) (wrap64 (1 + (Int.tmod (wrap64 (a2)) 50))) t339 0 0 0) else (some false))))) else (some false))) = some r := h
 clear h
 replace H := Option.bind_eq_some_iff.mp H
 obtain ⟨t332, A40, H⟩ := H
 replace H : (if t332 = true then (if (l0.length : Int) > 200 then (some true) else ((flagstonedata_Samples.f k l0 100).bind fun t333 => ((score_All.f k t333 (([(⟨1, wrap64 (1 + (Int.tmod (wrap64 (a1)) 50)), wrap64 (1 + (Int.tmod (wrap64 (a2)) 50))⟩ : S42), (⟨2, wrap64 (1 + (Int.tmod (wrap64 (a1)) 50)), wrap64 (1 + (Int.tmod (wrap64 (a2)) 50))⟩ : S42)] : List (S42))) 100 false).bind fun t339 => (if (t339.length : Int) = (t333.length : Int) then (flagstonelaw39_ScoreSums.l0 k t333 (wrap64 (1 + (Int.tmod (wrap64 (a1)) 50))) (wrap64 (1 + (Int.tmod (wrap64 (a2)) 50))) t339 0 0 0) else (some false))))) else (some false)) = some r := H
 have A4 := Aside0.mk A40
 clear A40
 by_cases c5 : t332 = true
 ·subst c5
  have H1 : (if (l0.length : Int) > 200 then (some true) else ((flagstonedata_Samples.f k l0 100).bind fun t333 => ((score_All.f k t333 (([(⟨1, wrap64 (1 + (Int.tmod (wrap64 (a1)) 50)), wrap64 (1 + (Int.tmod (wrap64 (a2)) 50))⟩ : S42), (⟨2, wrap64 (1 + (Int.tmod (wrap64 (a1)) 50)), wrap64 (1 + (Int.tmod (wrap64 (a2)) 50))⟩ : S42)] : List (S42))) 100 false).bind fun t339 => (if (t339.length : Int) = (t333.length : Int) then (flagstonelaw39_ScoreSums.l0 k t333 (wrap64 (1 + (Int.tmod (wrap64 (a1)) 50))) (wrap64 (1 + (Int.tmod (wrap64 (a2)) 50))) t339 0 0 0) else (some false))))) = some r := by rw [if_pos rfl] at H; exact H
  clear H
  have H := H1
  clear H1
  by_cases c6 : (l0.length : Int) > 200
  ·rw [if_pos c6] at H
   have c6b0 : decide (200 < (l0.length : Int)) = true := decide_eq_true c6
   have c6b1 : decide (200 < l0.length) = true := decide_eq_true (by omega)
   clear c6
   obtain rfl := Option.some.inj H
   go_enter Try.func10, Try.ntmps10
   go_wp2_with (first | ((with_reducible refine gate_callee (f := 11) rfl ?_); refine goesL_ (some 15) rfl rfl Try.func11 (by kernel_rfl) rfl #[] rfl (by (try simp only [List.map_toArray, List.map_cons, List.map_nil]); first | done | rfl | (simp only [List.length_drop, List.length_take]; rfl)) ?_; (with_reducible refine (flagstonelaw39_awake.calls k  true _ A4.out).mono ?_); rintro e w7 ⟨rfl, hb⟩; refine ⟨_, rfl, ?_⟩; have n0_ := Aside0.mk (below_step (by repeat (first | (with_reducible first | exact HB.out | apply below_alloc | apply pw_below_drewN | apply below_drew1) | exact HB.out)) hb); clear HB; have HB := n0_; clear n0_; (try clear hb); (try clear hb2); (try clear hk); (try clear hi)))
   go_ret
   exact ⟨by first | rfl | (simp [errW_none, errW_some] <;> rfl) | (simp [*, errW_none, errW_some] <;> rfl), by repeat (first | (with_reducible first | exact HB.out | apply below_alloc | apply pw_below_drewN | apply below_drew1) | exact HB.out)⟩
  ·rw [if_neg c6] at H
   have c6b0 : decide (200 < (l0.length : Int)) = false := decide_eq_false c6
   have c6b1 : decide (200 < l0.length) = false := decide_eq_false (by omega)
   clear c6
   replace H := Option.bind_eq_some_iff.mp H
   obtain ⟨t333, A80, H⟩ := H
   replace H : ((score_All.f k t333 (([(⟨1, wrap64 (1 + (Int.tmod (wrap64 (a1)) 50)), wrap64 (1 + (Int.tmod (wrap64 (a2)) 50))⟩ : S42), (⟨2, wrap64 (1 + (Int.tmod (wrap64 (a1)) 50)), wrap64 (1 + (Int.tmod (wrap64 (a2)) 50))⟩ : S42)] : List (S42))) 100 false).bind fun t339 => (if (t339.length : Int) = (t333.length : Int) then (flagstonelaw39_ScoreSums.l0 k t333 (wrap64 (1 + (Int.tmod (wrap64 (a1)) 50))) (wrap64 (1 + (Int.tmod (wrap64 (a2)) 50))) t339 0 0 0) else (some false))) = some r := H
   have A8 := Aside0.mk A80
   clear A80
   obtain ⟨y336, hy336⟩ : ∃ y_ : List (S42), y_ = (([(⟨1, wrap64 (1 + (Int.tmod (wrap64 (a1)) 50)), wrap64 (1 + (Int.tmod (wrap64 (a2)) 50))⟩ : S42), (⟨2, wrap64 (1 + (Int.tmod (wrap64 (a1)) 50)), wrap64 (1 + (Int.tmod (wrap64 (a2)) 50))⟩ : S42)] : List (S42))) := ⟨_, rfl⟩
   replace H : ((score_All.f k t333 y336 100 false).bind fun t339 => (if (t339.length : Int) = (t333.length : Int) then (flagstonelaw39_ScoreSums.l0 k t333 (wrap64 (1 + (Int.tmod (wrap64 (a1)) 50))) (wrap64 (1 + (Int.tmod (wrap64 (a2)) 50))) t339 0 0 0) else (some false))) = some r := by first | (rw [hy336]; with_reducible exact H) | (have H2_ := (Option.bind_some _ _).symm.trans H; rw [hy336]; with_reducible exact H2_) | (have H2_ := (Option.bind_some _ _).symm.trans H; with_reducible exact H2_) | with_reducible exact H | (rw [hy336]; exact H) | exact H
   have Ny336 := Aside0.mk hy336
   clear hy336
   replace H := Option.bind_eq_some_iff.mp H
   obtain ⟨t339, A90, H⟩ := H
   replace H : (if (t339.length : Int) = (t333.length : Int) then (flagstonelaw39_ScoreSums.l0 k t333 (wrap64 (1 + (Int.tmod (wrap64 (a1)) 50))) (wrap64 (1 + (Int.tmod (wrap64 (a2)) 50))) t339 0 0 0) else (some false)) = some r := H
   have A9 := Aside0.mk A90
   clear A90
   by_cases c10 : (t339.length : Int) = (t333.length : Int)
   ·rw [if_pos c10] at H
    have c10b0 : ((t339.length : Int) == (t333.length : Int)) = true := beq_iff_eq.mpr c10
    have c10b1 : ((t339.length : Int) != (t333.length : Int)) = false := bne_eq_false_iff_eq.mpr c10
    have c10b2 : (t339.length == t333.length) = true := by first | simpa using c10 | (simp at c10 ⊢; omega)
    clear c10
    have H' := Aside0.mk H
    clear H
    go_enter Try.func10, Try.ntmps10
    go_wp2_with (first | ((with_reducible refine gate_callee (f := 11) rfl ?_); refine goesL_ (some 15) rfl rfl Try.func11 (by kernel_rfl) rfl #[] rfl (by (try simp only [List.map_toArray, List.map_cons, List.map_nil]); first | done | rfl | (simp only [List.length_drop, List.length_take]; rfl)) ?_; (with_reducible refine (flagstonelaw39_awake.calls k  true _ A4.out).mono ?_); rintro e w11 ⟨rfl, hb⟩; refine ⟨_, rfl, ?_⟩; have n0_ := Aside0.mk (below_step (by repeat (first | (with_reducible first | exact HB.out | apply below_alloc | apply pw_below_drewN | apply below_drew1) | exact HB.out)) hb); clear HB; have HB := n0_; clear n0_; (try clear hb); (try clear hb2); (try clear hk); (try clear hi)) | ((with_reducible refine gate_callee (f := 12) rfl ?_); refine goesL_ (some 21) rfl rfl Try.func12 (by kernel_rfl) rfl #[.slice A0 l0.length c0, .int .i64 100] rfl (by (try simp only [List.map_toArray, List.map_cons, List.map_nil]); first | done | rfl | (simp only [List.length_drop, List.length_take]; rfl)) ?_; (with_reducible refine (flagstonedata_Samples.calls k _ _ l0 100 t333 _ ?side1 ?side2 A8.out).mono ?_); (case side1 => repeat (first | exact (Kd.C_below HR0.out HB.out) | (with_reducible refine Kd.C_alloc ?_ _) | (with_reducible refine Kd.C_drewN ?_ _) | (with_reducible refine Kd.C_drew ?_))); (case side2 => exact HC0.out); rintro e w12 ⟨v334, rfl, ho0, hb⟩; refine ⟨_, rfl, ?_⟩; have n0_ := Aside0.mk (Kd.R_lower ho0 (below_size (by repeat (first | (with_reducible first | exact HB.out | apply below_alloc | apply pw_below_drewN | apply below_drew1) | exact HB.out)))); have n1_ := Aside0.mk (below_step (by repeat (first | (with_reducible first | exact HB.out | apply below_alloc | apply pw_below_drewN | apply below_drew1) | exact HB.out)) hb); clear HB; have HO335 := n0_; have HB := n1_; clear n0_ n1_; (try clear hb); (try clear hb2); (try clear hk); (try clear hi); (try clear ho0)) | ((with_reducible refine gate_dst (N := 36) rfl ?_); refine Kd.R_lit k42 _ 42 ?hg (N := 36) ?hd (xs := ([(⟨1, wrap64 (1 + (Int.tmod (wrap64 (a1)) 50)), wrap64 (1 + (Int.tmod (wrap64 (a2)) 50))⟩ : S42), (⟨2, wrap64 (1 + (Int.tmod (wrap64 (a1)) 50)), wrap64 (1 + (Int.tmod (wrap64 (a2)) 50))⟩ : S42)] : List (S42))) (inner := [.int .i64 1, .int .i64 (wrap64 (1 + (Int.tmod (wrap64 (a1)) 50))), .int .i64 (wrap64 (1 + (Int.tmod (wrap64 (a2)) 50))), .int .i64 2, .int .i64 (wrap64 (1 + (Int.tmod (wrap64 (a1)) 50))), .int .i64 (wrap64 (1 + (Int.tmod (wrap64 (a2)) 50)))]) (ok := fun _ => True) (okp := fun _ => True) ?hr ?hp (fun _ hk => hk) trivial (Below.refl _ _) (Nat.le_refl _) (by simp) ?_; (case hd => rfl); (case hg => rfl); (case hr => first | (go_simp; done) | (go_simp; rfl)); (case hp => exact (Reps.c3 (show Kd.M k42 _ _ _ (⟨1, wrap64 (1 + (Int.tmod (wrap64 (a1)) 50)), wrap64 (1 + (Int.tmod (wrap64 (a2)) 50))⟩ : S42) [.int .i64 1, .int .i64 (wrap64 (1 + (Int.tmod (wrap64 (a1)) 50))), .int .i64 (wrap64 (1 + (Int.tmod (wrap64 (a2)) 50)))] from (k42_mkM _ _ _ (⟨1, wrap64 (1 + (Int.tmod (wrap64 (a1)) 50)), wrap64 (1 + (Int.tmod (wrap64 (a2)) 50))⟩ : S42) )) (Reps.c3 (show Kd.M k42 _ _ _ (⟨2, wrap64 (1 + (Int.tmod (wrap64 (a1)) 50)), wrap64 (1 + (Int.tmod (wrap64 (a2)) 50))⟩ : S42) [.int .i64 2, .int .i64 (wrap64 (1 + (Int.tmod (wrap64 (a1)) 50))), .int .i64 (wrap64 (1 + (Int.tmod (wrap64 (a2)) 50)))] from (k42_mkM _ _ _ (⟨2, wrap64 (1 + (Int.tmod (wrap64 (a1)) 50)), wrap64 (1 + (Int.tmod (wrap64 (a2)) 50))⟩ : S42) )) (Reps.none _ _)))); intro v337 w13 ho14 hb hg_ hnew_; clear hg_ hnew_; (first | rw [← Ny336.out] at ho14 | (simp only [Int.reduceToNat] at ho14; rw [← Ny336.out] at ho14)); have n0_ := Aside0.mk (Kd.R_below (by (with_reducible repeat (first | apply Kd.R_alloc | apply Kd.R_drewN | apply Kd.R_drew)); exact HO335.out) hb); have n1_ := Aside0.mk (Kd.R_lower ho14 (below_size (by repeat (first | (with_reducible first | exact HB.out | apply below_alloc | apply pw_below_drewN | apply below_drew1) | exact HB.out)))); have n2_ := Aside0.mk (below_step (by repeat (first | (with_reducible first | exact HB.out | apply below_alloc | apply pw_below_drewN | apply below_drew1) | exact HB.out)) hb); clear HO335; clear HB; have HO335 := n0_; have HO338 := n1_; have HB := n2_; clear n0_ n1_ n2_; clear hb ho14; obtain ⟨Ao15, co15, eo15⟩ := Kd.R_slice HO335.out; subst eo15; obtain ⟨Ao16, co16, eo16⟩ := Kd.R_slice HO338.out; subst eo16) | ((with_reducible refine gate_callee (f := 23) rfl ?_); refine goesL_ (some 39) rfl rfl Try.func23 (by kernel_rfl) rfl #[.slice Ao15 t333.length co15, .slice Ao16 y336.length co16, .int .i64 100, .bool false] rfl (by (try simp only [List.map_toArray, List.map_cons, List.map_nil]); first | done | rfl | (simp only [List.length_drop, List.length_take]; rfl)) ?_; (with_reducible refine (score_All.calls k _ _ t333 _ _ y336 100 false t339 _ ?side1 ?side2 ?side3 ?side4 A9.out).mono ?_); (case side1 => repeat (first | exact (Kd.R_reads' HO335.out).2.2 | (with_reducible refine Kd.C_alloc ?_ _) | (with_reducible refine Kd.C_drewN ?_ _) | (with_reducible refine Kd.C_drew ?_))); (case side2 => exact (Kd.R_reads' HO335.out).2.1); (case side3 => repeat (first | exact (Kd.R_reads' HO338.out).2.2 | (with_reducible refine Kd.C_alloc ?_ _) | (with_reducible refine Kd.C_drewN ?_ _) | (with_reducible refine Kd.C_drew ?_))); (case side4 => exact (Kd.R_reads' HO338.out).2.1); rintro e w17 ⟨v340, rfl, ho0, hb⟩; refine ⟨_, rfl, ?_⟩; have n0_ := Aside0.mk (Kd.R_below (by (with_reducible repeat (first | apply Kd.R_alloc | apply Kd.R_drewN | apply Kd.R_drew)); exact HO335.out) hb); have n1_ := Aside0.mk (Kd.R_below (by (with_reducible repeat (first | apply Kd.R_alloc | apply Kd.R_drewN | apply Kd.R_drew)); exact HO338.out) hb); have n2_ := Aside0.mk (Kd.R_lower ho0 (below_size (by repeat (first | (with_reducible first | exact HB.out | apply below_alloc | apply pw_below_drewN | apply below_drew1) | exact HB.out)))); have n3_ := Aside0.mk (below_step (by repeat (first | (with_reducible first | exact HB.out | apply below_alloc | apply pw_below_drewN | apply below_drew1) | exact HB.out)) hb); clear HO335; clear HO338; clear HB; have HO335 := n0_; have HO338 := n1_; have HO341 := n2_; have HB := n3_; clear n0_ n1_ n2_ n3_; (try clear hb); (try clear hb2); (try clear hk); (try clear hi); (try clear ho0); obtain ⟨Ao18, co18, eo18⟩ := Kd.R_slice HO341.out; subst eo18))
    go_loopg [12, 13, 14] k (fun kq v12 v13 v14 w' => ∃ (x12_1 : Int) (x13_1 : Int) (x14_1 : Int), v12 = .int .i64 x12_1 ∧ v13 = .int .i64 x13_1 ∧ v14 = .int .i64 x14_1 ∧ Aside0 (flagstonelaw39_ScoreSums.l0 kq t333 (wrap64 (1 + (Int.tmod (wrap64 (a1)) 50))) (wrap64 (1 + (Int.tmod (wrap64 (a2)) 50))) t339 x12_1 x13_1 x14_1 = some r) ∧ Aside0 (kq ≤ k) ∧ Aside0 (Kd.R k34 34 w' w.heap.size (fun _ => True) (.slice Ao15 t333.length co15) t333) ∧ Aside0 (Kd.R k37 37 w' w.heap.size (fun _ => True) (.slice Ao18 t339.length co18) t339) ∧ Aside0 (Below w.heap.size w w'))
    case atStart => exact ⟨(0), (0), (0), (by first | rfl | (simp; done) | (simp [*]; done) | exact congrArg (Value.int _) (by unfold wrap64; omega)), (by first | rfl | (simp; done) | (simp [*]; done) | exact congrArg (Value.int _) (by unfold wrap64; omega)), (by first | rfl | (simp; done) | (simp [*]; done) | exact congrArg (Value.int _) (by unfold wrap64; omega)), H', ⟨Nat.le_refl _⟩, ⟨by (with_reducible repeat (first | apply Kd.R_alloc | apply Kd.R_drewN | apply Kd.R_drew)); exact HO335.out⟩, ⟨by (with_reducible repeat (first | apply Kd.R_alloc | apply Kd.R_drewN | apply Kd.R_drew)); exact HO341.out⟩, ⟨by repeat (first | (with_reducible first | exact HB.out | apply below_alloc | apply pw_below_drewN | apply below_drew1) | exact HB.out)⟩⟩
    case round =>
     clear H'
     try clear c1
     try clear c2
     try clear p2
     try clear c3
     try clear c5
     try clear c6
     try clear c6b0
     try clear c6b1
     try clear p6
     try clear c10
     try clear c10b0
     try clear c10b1
     try clear c10b2
     try clear c11
     try clear c12
     obtain ⟨x12_1, x13_1, x14_1, rfl, rfl, rfl, HA, HK1, HO_7, HO_11, HB⟩ := hrel
     cases gk with
     | zero => exact absurd HA.out (by simp [flagstonelaw39_ScoreSums.l0])
     | succ k1 =>
      have H := HA.out
      clear HA
      simp only [flagstonelaw39_ScoreSums.l0] at H
      by_cases c19 : x14_1 < (t333.length : Int)
      ·rw [if_pos c19] at H
       have c19b0 : decide (x14_1 < (t333.length : Int)) = true := decide_eq_true c19
       clear c19
       by_cases c20 : 0 ≤ x14_1
       ·rw [if_pos c20] at H
        have c20b0 : decide (0 ≤ x14_1) = true := decide_eq_true c20
        clear c20
        by_cases c21 : x14_1 < (t339.length : Int)
        ·rw [if_pos c21] at H
         have c21b0 : decide (x14_1 < (t339.length : Int)) = true := decide_eq_true c21
         clear c21
         by_cases c22 : ((rd_T37 t339 x14_1).f1) = (wrap64 ((wrap64 ((wrap64 (1 + (Int.tmod (wrap64 (a1)) 50))) * (wrap64 (1 + (Int.tmod (wrap64 (a2)) 50))))) * 100))
         ·rw [if_pos c22] at H
          have c22b0 : (((rd_T37 t339 x14_1).f1) == (wrap64 ((wrap64 ((wrap64 (1 + (Int.tmod (wrap64 (a1)) 50))) * (wrap64 (1 + (Int.tmod (wrap64 (a2)) 50))))) * 100))) = true := beq_iff_eq.mpr c22
          have c22b1 : (((rd_T37 t339 x14_1).f1) != (wrap64 ((wrap64 ((wrap64 (1 + (Int.tmod (wrap64 (a1)) 50))) * (wrap64 (1 + (Int.tmod (wrap64 (a2)) 50))))) * 100))) = false := bne_eq_false_iff_eq.mpr c22
          clear c22
          by_cases c23 : ((rd_T34 t333 x14_1).f0.f4) = 2
          ·rw [if_pos c23] at H
           have c23b0 : (((rd_T34 t333 x14_1).f0.f4) == 2) = true := beq_iff_eq.mpr c23
           have c23b1 : (((rd_T34 t333 x14_1).f0.f4) != 2) = false := bne_eq_false_iff_eq.mpr c23
           clear c23
           have H' := Aside0.mk H
           clear H
           have p342 : 0 ≤ (x14_1 : Int) := of_decide_eq_true (by first | (with_reducible assumption) | assumption)
           have q342 : x14_1 < (t339.length : Int) := of_decide_eq_true (by first | (with_reducible assumption) | assumption)
           obtain ⟨ad342, e342, hx342_0, hx342_1, hx342_2⟩ := at_T37 (Kd.R_reads' HO_11.out).2.2 x14_1 p342 q342
           cases e342
           replace p342 := eq_true p342
           replace q342 := eq_true q342
           have p343 : 0 ≤ (x14_1 : Int) := of_decide_eq_true (by first | (with_reducible assumption) | assumption)
           have q343 : x14_1 < (t339.length : Int) := of_decide_eq_true (by first | (with_reducible assumption) | assumption)
           obtain ⟨ad343, e343, hx343_0, hx343_1, hx343_2⟩ := at_T37 (Kd.R_reads' HO_11.out).2.2 x14_1 p343 q343
           obtain rfl : ad342 = ad343 := (by injection e343)
           replace p343 := eq_true p343
           replace q343 := eq_true q343
           have p344 : 0 ≤ (x14_1 : Int) := of_decide_eq_true (by first | (with_reducible assumption) | assumption)
           have q344 : x14_1 < (t333.length : Int) := of_decide_eq_true (by first | (with_reducible assumption) | assumption)
           obtain ⟨ad344, e344, hx344_0, hx344_1, hx344_2, hx344_3, hx344_4, hx344_5, hx344_6, hx344_7, hx344_8, hx344_9⟩ := at_T34 (Kd.R_reads' HO_7.out).2.2 x14_1 p344 q344
           cases e344
           replace p344 := eq_true p344
           replace q344 := eq_true q344
           have p345 : 0 ≤ (x14_1 : Int) := of_decide_eq_true (by first | (with_reducible assumption) | assumption)
           have q345 : x14_1 < (t333.length : Int) := of_decide_eq_true (by first | (with_reducible assumption) | assumption)
           obtain ⟨ad345, e345, hx345_0, hx345_1, hx345_2, hx345_3, hx345_4, hx345_5, hx345_6, hx345_7, hx345_8, hx345_9⟩ := at_T34 (Kd.R_reads' HO_7.out).2.2 x14_1 p345 q345
           obtain rfl : ad344 = ad345 := (by injection e345)
           replace p345 := eq_true p345
           replace q345 := eq_true q345
           go_wp2
           go_roundg k1
           case measure => have := HK1.out; omega
           case rel => exact ⟨(wrap64 (x12_1 + ((rd_T37 t339 x14_1).f0))), (wrap64 (x13_1 + (wrap64 ((wrap64 ((wrap64 ((wrap64 (1 + (Int.tmod (wrap64 (a1)) 50))) + (wrap64 (1 + (Int.tmod (wrap64 (a2)) 50))))) * (wrap64 (1 + (Int.tmod (wrap64 (a1)) 50))))) * ((rd_T34 t333 x14_1).f1))))), (wrap64 (x14_1 + 1)), (by first | rfl | (simp; done) | (simp [*]; done) | exact congrArg (Value.int _) (by unfold wrap64; omega)), (by first | rfl | (simp; done) | (simp [*]; done) | exact congrArg (Value.int _) (by unfold wrap64; omega)), (by first | rfl | (simp; done) | (simp [*]; done) | exact congrArg (Value.int _) (by unfold wrap64; omega)), H', ⟨by have := HK1.out; omega⟩, ⟨by (with_reducible repeat (first | apply Kd.R_alloc | apply Kd.R_drewN | apply Kd.R_drew)); exact HO_7.out⟩, ⟨by (with_reducible repeat (first | apply Kd.R_alloc | apply Kd.R_drewN | apply Kd.R_drew)); exact HO_11.out⟩, ⟨by repeat (first | (with_reducible first | exact HB.out | apply below_alloc | apply pw_below_drewN | apply below_drew1) | exact HB.out)⟩⟩
          ·rw [if_neg c23] at H
           have c23b0 : (((rd_T34 t333 x14_1).f0.f4) == 2) = false := beq_eq_false_iff_ne.mpr c23
           have c23b1 : (((rd_T34 t333 x14_1).f0.f4) != 2) = true := bne_iff_ne.mpr c23
           have H' := Aside0.mk H
           clear H
           have p342 : 0 ≤ (x14_1 : Int) := of_decide_eq_true (by first | (with_reducible assumption) | assumption)
           have q342 : x14_1 < (t339.length : Int) := of_decide_eq_true (by first | (with_reducible assumption) | assumption)
           obtain ⟨ad342, e342, hx342_0, hx342_1, hx342_2⟩ := at_T37 (Kd.R_reads' HO_11.out).2.2 x14_1 p342 q342
           cases e342
           replace p342 := eq_true p342
           replace q342 := eq_true q342
           have p343 : 0 ≤ (x14_1 : Int) := of_decide_eq_true (by first | (with_reducible assumption) | assumption)
           have q343 : x14_1 < (t339.length : Int) := of_decide_eq_true (by first | (with_reducible assumption) | assumption)
           obtain ⟨ad343, e343, hx343_0, hx343_1, hx343_2⟩ := at_T37 (Kd.R_reads' HO_11.out).2.2 x14_1 p343 q343
           obtain rfl : ad342 = ad343 := (by injection e343)
           replace p343 := eq_true p343
           replace q343 := eq_true q343
           have p344 : 0 ≤ (x14_1 : Int) := of_decide_eq_true (by first | (with_reducible assumption) | assumption)
           have q344 : x14_1 < (t333.length : Int) := of_decide_eq_true (by first | (with_reducible assumption) | assumption)
           obtain ⟨ad344, e344, hx344_0, hx344_1, hx344_2, hx344_3, hx344_4, hx344_5, hx344_6, hx344_7, hx344_8, hx344_9⟩ := at_T34 (Kd.R_reads' HO_7.out).2.2 x14_1 p344 q344
           cases e344
           replace p344 := eq_true p344
           replace q344 := eq_true q344
           have p346 : 0 ≤ (x14_1 : Int) := of_decide_eq_true (by first | (with_reducible assumption) | assumption)
           have q346 : x14_1 < (t333.length : Int) := of_decide_eq_true (by first | (with_reducible assumption) | assumption)
           obtain ⟨ad346, e346, hx346_0, hx346_1, hx346_2, hx346_3, hx346_4, hx346_5, hx346_6, hx346_7, hx346_8, hx346_9⟩ := at_T34 (Kd.R_reads' HO_7.out).2.2 x14_1 p346 q346
           obtain rfl : ad344 = ad346 := (by injection e346)
           replace p346 := eq_true p346
           replace q346 := eq_true q346
           go_wp2
           go_roundg k1
           case measure => have := HK1.out; omega
           case rel => exact ⟨(wrap64 (x12_1 + ((rd_T37 t339 x14_1).f0))), (wrap64 (x13_1 - (wrap64 ((wrap64 ((wrap64 ((wrap64 (1 + (Int.tmod (wrap64 (a1)) 50))) + (wrap64 (1 + (Int.tmod (wrap64 (a2)) 50))))) * (wrap64 (1 + (Int.tmod (wrap64 (a2)) 50))))) * ((rd_T34 t333 x14_1).f1))))), (wrap64 (x14_1 + 1)), (by first | rfl | (simp; done) | (simp [*]; done) | exact congrArg (Value.int _) (by unfold wrap64; omega)), (by first | rfl | (simp; done) | (simp [*]; done) | exact congrArg (Value.int _) (by unfold wrap64; omega)), (by first | rfl | (simp; done) | (simp [*]; done) | exact congrArg (Value.int _) (by unfold wrap64; omega)), H', ⟨by have := HK1.out; omega⟩, ⟨by (with_reducible repeat (first | apply Kd.R_alloc | apply Kd.R_drewN | apply Kd.R_drew)); exact HO_7.out⟩, ⟨by (with_reducible repeat (first | apply Kd.R_alloc | apply Kd.R_drewN | apply Kd.R_drew)); exact HO_11.out⟩, ⟨by repeat (first | (with_reducible first | exact HB.out | apply below_alloc | apply pw_below_drewN | apply below_drew1) | exact HB.out)⟩⟩
         ·rw [if_neg c22] at H
          have c22b0 : (((rd_T37 t339 x14_1).f1) == (wrap64 ((wrap64 ((wrap64 (1 + (Int.tmod (wrap64 (a1)) 50))) * (wrap64 (1 + (Int.tmod (wrap64 (a2)) 50))))) * 100))) = false := beq_eq_false_iff_ne.mpr c22
          have c22b1 : (((rd_T37 t339 x14_1).f1) != (wrap64 ((wrap64 ((wrap64 (1 + (Int.tmod (wrap64 (a1)) 50))) * (wrap64 (1 + (Int.tmod (wrap64 (a2)) 50))))) * 100))) = true := bne_iff_ne.mpr c22
          obtain rfl := Option.some.inj H
          have p342 : 0 ≤ (x14_1 : Int) := of_decide_eq_true (by first | (with_reducible assumption) | assumption)
          have q342 : x14_1 < (t339.length : Int) := of_decide_eq_true (by first | (with_reducible assumption) | assumption)
          obtain ⟨ad342, e342, hx342_0, hx342_1, hx342_2⟩ := at_T37 (Kd.R_reads' HO_11.out).2.2 x14_1 p342 q342
          cases e342
          replace p342 := eq_true p342
          replace q342 := eq_true q342
          go_wp2
          go_ret
          exact ⟨by first | rfl | (simp [errW_none, errW_some] <;> rfl) | (simp [*, errW_none, errW_some] <;> rfl), by repeat (first | (with_reducible first | exact HB.out | apply below_alloc | apply pw_below_drewN | apply below_drew1) | exact HB.out)⟩
        ·rw [if_neg c21] at H
         exact absurd H (by simp)
       ·rw [if_neg c20] at H
        exact absurd H (by simp)
      ·rw [if_neg c19] at H
       have c19b0 : decide (x14_1 < (t333.length : Int)) = false := decide_eq_false c19
       clear c19
       obtain rfl := Option.some.inj H
       go_wp2
       go_ret
       exact ⟨by first | rfl | (simp [errW_none, errW_some] <;> rfl) | (simp [*, errW_none, errW_some] <;> rfl), by repeat (first | (with_reducible first | exact HB.out | apply below_alloc | apply pw_below_drewN | apply below_drew1) | exact HB.out)⟩
   ·rw [if_neg c10] at H
    have c10b0 : ((t339.length : Int) == (t333.length : Int)) = false := beq_eq_false_iff_ne.mpr c10
    have c10b1 : ((t339.length : Int) != (t333.length : Int)) = true := bne_iff_ne.mpr c10
    have c10b2 : (t339.length == t333.length) = false := by first | simpa using c10 | (simp at c10 ⊢; omega)
    obtain rfl := Option.some.inj H
    go_enter Try.func10, Try.ntmps10
    go_wp2_with (first | ((with_reducible refine gate_callee (f := 11) rfl ?_); refine goesL_ (some 15) rfl rfl Try.func11 (by kernel_rfl) rfl #[] rfl (by (try simp only [List.map_toArray, List.map_cons, List.map_nil]); first | done | rfl | (simp only [List.length_drop, List.length_take]; rfl)) ?_; (with_reducible refine (flagstonelaw39_awake.calls k  true _ A4.out).mono ?_); rintro e w24 ⟨rfl, hb⟩; refine ⟨_, rfl, ?_⟩; have n0_ := Aside0.mk (below_step (by repeat (first | (with_reducible first | exact HB.out | apply below_alloc | apply pw_below_drewN | apply below_drew1) | exact HB.out)) hb); clear HB; have HB := n0_; clear n0_; (try clear hb); (try clear hb2); (try clear hk); (try clear hi)) | ((with_reducible refine gate_callee (f := 12) rfl ?_); refine goesL_ (some 21) rfl rfl Try.func12 (by kernel_rfl) rfl #[.slice A0 l0.length c0, .int .i64 100] rfl (by (try simp only [List.map_toArray, List.map_cons, List.map_nil]); first | done | rfl | (simp only [List.length_drop, List.length_take]; rfl)) ?_; (with_reducible refine (flagstonedata_Samples.calls k _ _ l0 100 t333 _ ?side1 ?side2 A8.out).mono ?_); (case side1 => repeat (first | exact (Kd.C_below HR0.out HB.out) | (with_reducible refine Kd.C_alloc ?_ _) | (with_reducible refine Kd.C_drewN ?_ _) | (with_reducible refine Kd.C_drew ?_))); (case side2 => exact HC0.out); rintro e w25 ⟨v334, rfl, ho0, hb⟩; refine ⟨_, rfl, ?_⟩; have n0_ := Aside0.mk (Kd.R_lower ho0 (below_size (by repeat (first | (with_reducible first | exact HB.out | apply below_alloc | apply pw_below_drewN | apply below_drew1) | exact HB.out)))); have n1_ := Aside0.mk (below_step (by repeat (first | (with_reducible first | exact HB.out | apply below_alloc | apply pw_below_drewN | apply below_drew1) | exact HB.out)) hb); clear HB; have HO335 := n0_; have HB := n1_; clear n0_ n1_; (try clear hb); (try clear hb2); (try clear hk); (try clear hi); (try clear ho0)) | ((with_reducible refine gate_dst (N := 36) rfl ?_); refine Kd.R_lit k42 _ 42 ?hg (N := 36) ?hd (xs := ([(⟨1, wrap64 (1 + (Int.tmod (wrap64 (a1)) 50)), wrap64 (1 + (Int.tmod (wrap64 (a2)) 50))⟩ : S42), (⟨2, wrap64 (1 + (Int.tmod (wrap64 (a1)) 50)), wrap64 (1 + (Int.tmod (wrap64 (a2)) 50))⟩ : S42)] : List (S42))) (inner := [.int .i64 1, .int .i64 (wrap64 (1 + (Int.tmod (wrap64 (a1)) 50))), .int .i64 (wrap64 (1 + (Int.tmod (wrap64 (a2)) 50))), .int .i64 2, .int .i64 (wrap64 (1 + (Int.tmod (wrap64 (a1)) 50))), .int .i64 (wrap64 (1 + (Int.tmod (wrap64 (a2)) 50)))]) (ok := fun _ => True) (okp := fun _ => True) ?hr ?hp (fun _ hk => hk) trivial (Below.refl _ _) (Nat.le_refl _) (by simp) ?_; (case hd => rfl); (case hg => rfl); (case hr => first | (go_simp; done) | (go_simp; rfl)); (case hp => exact (Reps.c3 (show Kd.M k42 _ _ _ (⟨1, wrap64 (1 + (Int.tmod (wrap64 (a1)) 50)), wrap64 (1 + (Int.tmod (wrap64 (a2)) 50))⟩ : S42) [.int .i64 1, .int .i64 (wrap64 (1 + (Int.tmod (wrap64 (a1)) 50))), .int .i64 (wrap64 (1 + (Int.tmod (wrap64 (a2)) 50)))] from (k42_mkM _ _ _ (⟨1, wrap64 (1 + (Int.tmod (wrap64 (a1)) 50)), wrap64 (1 + (Int.tmod (wrap64 (a2)) 50))⟩ : S42) )) (Reps.c3 (show Kd.M k42 _ _ _ (⟨2, wrap64 (1 + (Int.tmod (wrap64 (a1)) 50)), wrap64 (1 + (Int.tmod (wrap64 (a2)) 50))⟩ : S42) [.int .i64 2, .int .i64 (wrap64 (1 + (Int.tmod (wrap64 (a1)) 50))), .int .i64 (wrap64 (1 + (Int.tmod (wrap64 (a2)) 50)))] from (k42_mkM _ _ _ (⟨2, wrap64 (1 + (Int.tmod (wrap64 (a1)) 50)), wrap64 (1 + (Int.tmod (wrap64 (a2)) 50))⟩ : S42) )) (Reps.none _ _)))); intro v337 w26 ho27 hb hg_ hnew_; clear hg_ hnew_; (first | rw [← Ny336.out] at ho27 | (simp only [Int.reduceToNat] at ho27; rw [← Ny336.out] at ho27)); have n0_ := Aside0.mk (Kd.R_below (by (with_reducible repeat (first | apply Kd.R_alloc | apply Kd.R_drewN | apply Kd.R_drew)); exact HO335.out) hb); have n1_ := Aside0.mk (Kd.R_lower ho27 (below_size (by repeat (first | (with_reducible first | exact HB.out | apply below_alloc | apply pw_below_drewN | apply below_drew1) | exact HB.out)))); have n2_ := Aside0.mk (below_step (by repeat (first | (with_reducible first | exact HB.out | apply below_alloc | apply pw_below_drewN | apply below_drew1) | exact HB.out)) hb); clear HO335; clear HB; have HO335 := n0_; have HO338 := n1_; have HB := n2_; clear n0_ n1_ n2_; clear hb ho27; obtain ⟨Ao28, co28, eo28⟩ := Kd.R_slice HO335.out; subst eo28; obtain ⟨Ao29, co29, eo29⟩ := Kd.R_slice HO338.out; subst eo29) | ((with_reducible refine gate_callee (f := 23) rfl ?_); refine goesL_ (some 39) rfl rfl Try.func23 (by kernel_rfl) rfl #[.slice Ao28 t333.length co28, .slice Ao29 y336.length co29, .int .i64 100, .bool false] rfl (by (try simp only [List.map_toArray, List.map_cons, List.map_nil]); first | done | rfl | (simp only [List.length_drop, List.length_take]; rfl)) ?_; (with_reducible refine (score_All.calls k _ _ t333 _ _ y336 100 false t339 _ ?side1 ?side2 ?side3 ?side4 A9.out).mono ?_); (case side1 => repeat (first | exact (Kd.R_reads' HO335.out).2.2 | (with_reducible refine Kd.C_alloc ?_ _) | (with_reducible refine Kd.C_drewN ?_ _) | (with_reducible refine Kd.C_drew ?_))); (case side2 => exact (Kd.R_reads' HO335.out).2.1); (case side3 => repeat (first | exact (Kd.R_reads' HO338.out).2.2 | (with_reducible refine Kd.C_alloc ?_ _) | (with_reducible refine Kd.C_drewN ?_ _) | (with_reducible refine Kd.C_drew ?_))); (case side4 => exact (Kd.R_reads' HO338.out).2.1); rintro e w30 ⟨v340, rfl, ho0, hb⟩; refine ⟨_, rfl, ?_⟩; have n0_ := Aside0.mk (Kd.R_below (by (with_reducible repeat (first | apply Kd.R_alloc | apply Kd.R_drewN | apply Kd.R_drew)); exact HO335.out) hb); have n1_ := Aside0.mk (Kd.R_below (by (with_reducible repeat (first | apply Kd.R_alloc | apply Kd.R_drewN | apply Kd.R_drew)); exact HO338.out) hb); have n2_ := Aside0.mk (Kd.R_lower ho0 (below_size (by repeat (first | (with_reducible first | exact HB.out | apply below_alloc | apply pw_below_drewN | apply below_drew1) | exact HB.out)))); have n3_ := Aside0.mk (below_step (by repeat (first | (with_reducible first | exact HB.out | apply below_alloc | apply pw_below_drewN | apply below_drew1) | exact HB.out)) hb); clear HO335; clear HO338; clear HB; have HO335 := n0_; have HO338 := n1_; have HO341 := n2_; have HB := n3_; clear n0_ n1_ n2_ n3_; (try clear hb); (try clear hb2); (try clear hk); (try clear hi); (try clear ho0); obtain ⟨Ao31, co31, eo31⟩ := Kd.R_slice HO341.out; subst eo31))
    go_ret
    exact ⟨by first | rfl | (simp [errW_none, errW_some] <;> rfl) | (simp [*, errW_none, errW_some] <;> rfl), by repeat (first | (with_reducible first | exact HB.out | apply below_alloc | apply pw_below_drewN | apply below_drew1) | exact HB.out)⟩
 ·replace c5 := Bool.eq_false_iff.mpr c5
  subst c5
  have H1 : (some false) = some r := by rw [if_neg (show ¬ (false = true) by decide)] at H; exact H
  clear H
  have H := H1
  clear H1
  obtain rfl := Option.some.inj H
  go_enter Try.func10, Try.ntmps10
  go_wp2_with (first | ((with_reducible refine gate_callee (f := 11) rfl ?_); refine goesL_ (some 15) rfl rfl Try.func11 (by kernel_rfl) rfl #[] rfl (by (try simp only [List.map_toArray, List.map_cons, List.map_nil]); first | done | rfl | (simp only [List.length_drop, List.length_take]; rfl)) ?_; (with_reducible refine (flagstonelaw39_awake.calls k  false _ A4.out).mono ?_); rintro e w32 ⟨rfl, hb⟩; refine ⟨_, rfl, ?_⟩; have n0_ := Aside0.mk (below_step (by repeat (first | (with_reducible first | exact HB.out | apply below_alloc | apply pw_below_drewN | apply below_drew1) | exact HB.out)) hb); clear HB; have HB := n0_; clear n0_; (try clear hb); (try clear hb2); (try clear hk); (try clear hi)))
  go_ret
  exact ⟨by first | rfl | (simp [errW_none, errW_some] <;> rfl) | (simp [*, errW_none, errW_some] <;> rfl), by repeat (first | (with_reducible first | exact HB.out | apply below_alloc | apply pw_below_drewN | apply below_drew1) | exact HB.out)⟩

/-- THE ONE PURE STATEMENT of flagstonelaw39_ScoreSums: yours. -/
def flagstonelaw39_ScoreSums.Pure : Prop := ∀ (l0 : List Int) (a1 : Int) (a2 : Int), l0.length ≤ maxLen → l0.length * 1 ≤ 140737488351232 → (∀ x ∈ l0, (Lit.int .u8 x).wf = true) → (Lit.int .u8 a1).wf = true → (Lit.int .u8 a2).wf = true → ∃ k, flagstonelaw39_ScoreSums.f k l0 a1 a2 = some true
theorem flagstonelaw39_ScoreSums.walk (P : flagstonelaw39_ScoreSums.Pure) (a0 : Option Addr) (len0 cap0 : Nat) (z0 : List Int) (a1 : Int) (a2 : Int) (w : World) (w0 : (a0 = none ∧ len0 = 0 ∧ cap0 = 0 ∧ z0 = []) ∨ ∃ x, a0 = some x ∧ len0 ≤ cap0 ∧ cap0 ≤ maxLen ∧ z0.length = cap0 ∧ (∀ i, i < z0.length → w.cell? (x.add i) = some (.int .u8 (z0.getD i 0))) ∧ ∀ n ∈ z0, (Lit.int .u8 n).wf = true) (y0 : len0 * 1 ≤ 140737488351232) (w1 : (Lit.int .u8 a1).wf = true) (w2 : (Lit.int .u8 a2).wf = true) :
  Calls Try.prog 10 #[.slice a0 len0 cap0, .int .u8 a1, .int .u8 a2] w fun e w' => e = .returned (.bool true) ∧ Below w.heap.size w w' := by
 obtain ⟨l0, rfl, hr0, hm0, hw0, hc0⟩ := ReadsInt.ofRowC w0
 obtain ⟨k, h⟩ := P l0 a1 a2 hm0 y0 hw0 w1 w2
 refine (flagstonelaw39_ScoreSums.calls k _ _ l0 a1 a2 true w (Kd.C_of_reads (d := (0 : Int)) (h1 := fun _ => rfl) hr0) hc0 h).mono ?_
 rintro e w' ⟨rfl, hd⟩
 exact ⟨rfl, hd⟩

end Go.Proofs.Ytdmhdbebjjhopaa.PA
