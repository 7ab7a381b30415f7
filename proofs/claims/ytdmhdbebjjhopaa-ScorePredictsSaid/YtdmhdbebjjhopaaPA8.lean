-- Written by a program of this seat's session (wip/tools/ownprint.py, over the kit's printer) out of the translation: functions and their contracts.
import Derived.Test.YtdmhdbebjjhopaaPA0
import Derived.Test.YtdmhdbebjjhopaaPA2
import Derived.Test.YtdmhdbebjjhopaaPA3
import Derived.Test.YtdmhdbebjjhopaaPA6
import Derived.Test.YtdmhdbebjjhopaaPA7
namespace Go.Proofs.Ytdmhdbebjjhopaa.PA
open Go.RowKit Go.Proofs.YtdmhdbebjjhopaaW.PrintWords Go.Proofs.YtdmhdbebjjhopaaW.PrintLast Go.Proofs.YtdmhdbebjjhopaaW.PrintMore
attribute [local go_sem] max2_int min2_int max_two min_two max_three min_three max_four min_four   -- for this text's walks alone
set_option linter.unusedVariables false
set_option linter.unusedSimpArgs false

/-! ### flagstonelaw39_ScorePredicts: function 3 -/
mutual
def flagstonelaw39_ScorePredicts.j0 : Nat → Int → List (S34) → Bool → Option (Bool)
  | 0, _, _, _ => none
  | k + 1, x11, x12, x51 => if x51 = true then (some false) else (flagstonelaw39_ScorePredicts.l0 k x11 x12 (-1))
def flagstonelaw39_ScorePredicts.l0 : Nat → Int → List (S34) → Int → Option (Bool)
  | 0, _, _, _ => none
  | k + 1, x11, x12, x13 => if x13 ≤ (x12.length : Int) then (flagstonelaw39_ScorePredicts.l1 k x11 x12 x13 0) else (some true)
def flagstonelaw39_ScorePredicts.l1 : Nat → Int → List (S34) → Int → Int → Option (Bool)
  | 0, _, _, _, _ => none
  | k + 1, x11, x12, x13, x14 => if x14 ≤ 3 then ((score_Predict.f k x12 x13 x14 x11).bind fun t201 => ((flagstoneref39_Predict.f k x12 x13 x14 x11).bind fun t202 => (if t201 = t202 then (flagstonelaw39_ScorePredicts.l1 k x11 x12 x13 (wrap64 (x14 + 1))) else (some false)))) else (flagstonelaw39_ScorePredicts.l0 k x11 x12 (wrap64 (x13 + 1)))
end
def flagstonelaw39_ScorePredicts.f (k : Nat) (l0 : List Int) (a1 : Int) (a2 : Int) (a3 : Int) (a4 : Int) : Option (Bool) := (flagstonelaw39_awake.f k).bind fun t191 => (if t191 = true then (if (l0.length : Int) > 200 then (some true) else ((flagstonedata_Samples.f k l0 (wrap64 (a4))).bind fun t192 => ((score_Class.f k a1).bind fun t195 => ((flagstoneref39_Class.f k a1).bind fun t196 => (if t195 = t196 then ((score_Class.f k (a1 / 1125899906842624)).bind fun t197 => ((flagstoneref39_Class.f k (a1 / 1125899906842624)).bind fun t198 => (if t197 = t198 then ((score_Predict.f k t192 a2 a3 (wrap64 (a4))).bind fun t199 => ((flagstoneref39_Predict.f k t192 a2 a3 (wrap64 (a4))).bind fun t200 => (flagstonelaw39_ScorePredicts.j0 k (wrap64 (a4)) t192 (t199 != t200)))) else (flagstonelaw39_ScorePredicts.j0 k (wrap64 (a4)) t192 true)))) else (flagstonelaw39_ScorePredicts.j0 k (wrap64 (a4)) t192 true)))))) else (some false))
theorem flagstonelaw39_ScorePredicts.mono_l : ∀ k, (∀ y0 y1 y2, LeO (flagstonelaw39_ScorePredicts.j0 k y0 y1 y2) (flagstonelaw39_ScorePredicts.j0 (k + 1) y0 y1 y2)) ∧ (∀ y0 y1 y2, LeO (flagstonelaw39_ScorePredicts.l0 k y0 y1 y2) (flagstonelaw39_ScorePredicts.l0 (k + 1) y0 y1 y2)) ∧ (∀ y0 y1 y2 y3, LeO (flagstonelaw39_ScorePredicts.l1 k y0 y1 y2 y3) (flagstonelaw39_ScorePredicts.l1 (k + 1) y0 y1 y2 y3))
  | 0 => ⟨fun _ _ _ r h => by simp [flagstonelaw39_ScorePredicts.j0] at h, fun _ _ _ r h => by simp [flagstonelaw39_ScorePredicts.l0] at h, fun _ _ _ _ r h => by simp [flagstonelaw39_ScorePredicts.l1] at h⟩
  | k + 1 => by
    obtain ⟨ih0, ih1, ih2⟩ := flagstonelaw39_ScorePredicts.mono_l k
    refine ⟨?_, ?_, ?_⟩
    · intro y0 y1 y2
      unfold flagstonelaw39_ScorePredicts.j0
      repeat' first
      | (with_reducible exact ih0 _ _ _)
      | (with_reducible exact ih1 _ _ _)
      | (with_reducible exact ih2 _ _ _ _)
      | (with_reducible exact flagstonedata_Samples.mono _ _ _)
      | (with_reducible exact flagstonelaw39_awake.mono _)
      | (with_reducible exact flagstoneref39_Class.mono _ _)
      | (with_reducible exact flagstoneref39_Predict.mono _ _ _ _ _)
      | (with_reducible exact score_Class.mono _ _)
      | (with_reducible exact score_Predict.mono _ _ _ _ _)
      | (with_reducible exact LeO.refl _)
      | (with_reducible exact LeO.none _)
      | (with_reducible refine LeO.ite ?_ ?_)
      | (with_reducible refine LeO.bind ?_ (fun _ => ?_))
      | exact ih0 _ _ _
      | exact ih1 _ _ _
      | exact ih2 _ _ _ _
      | exact flagstonedata_Samples.mono _ _ _
      | exact flagstonelaw39_awake.mono _
      | exact flagstoneref39_Class.mono _ _
      | exact flagstoneref39_Predict.mono _ _ _ _ _
      | exact score_Class.mono _ _
      | exact score_Predict.mono _ _ _ _ _
      | exact LeO.none _
      | refine LeO.ite ?_ ?_
      | refine LeO.bind ?_ (fun _ => ?_)
    · intro y0 y1 y2
      unfold flagstonelaw39_ScorePredicts.l0
      repeat' first
      | (with_reducible exact ih0 _ _ _)
      | (with_reducible exact ih1 _ _ _)
      | (with_reducible exact ih2 _ _ _ _)
      | (with_reducible exact flagstonedata_Samples.mono _ _ _)
      | (with_reducible exact flagstonelaw39_awake.mono _)
      | (with_reducible exact flagstoneref39_Class.mono _ _)
      | (with_reducible exact flagstoneref39_Predict.mono _ _ _ _ _)
      | (with_reducible exact score_Class.mono _ _)
      | (with_reducible exact score_Predict.mono _ _ _ _ _)
      | (with_reducible exact LeO.refl _)
      | (with_reducible exact LeO.none _)
      | (with_reducible refine LeO.ite ?_ ?_)
      | (with_reducible refine LeO.bind ?_ (fun _ => ?_))
      | exact ih0 _ _ _
      | exact ih1 _ _ _
      | exact ih2 _ _ _ _
      | exact flagstonedata_Samples.mono _ _ _
      | exact flagstonelaw39_awake.mono _
      | exact flagstoneref39_Class.mono _ _
      | exact flagstoneref39_Predict.mono _ _ _ _ _
      | exact score_Class.mono _ _
      | exact score_Predict.mono _ _ _ _ _
      | exact LeO.none _
      | refine LeO.ite ?_ ?_
      | refine LeO.bind ?_ (fun _ => ?_)
    · intro y0 y1 y2 y3
      unfold flagstonelaw39_ScorePredicts.l1
      repeat' first
      | (with_reducible exact ih0 _ _ _)
      | (with_reducible exact ih1 _ _ _)
      | (with_reducible exact ih2 _ _ _ _)
      | (with_reducible exact flagstonedata_Samples.mono _ _ _)
      | (with_reducible exact flagstonelaw39_awake.mono _)
      | (with_reducible exact flagstoneref39_Class.mono _ _)
      | (with_reducible exact flagstoneref39_Predict.mono _ _ _ _ _)
      | (with_reducible exact score_Class.mono _ _)
      | (with_reducible exact score_Predict.mono _ _ _ _ _)
      | (with_reducible exact LeO.refl _)
      | (with_reducible exact LeO.none _)
      | (with_reducible refine LeO.ite ?_ ?_)
      | (with_reducible refine LeO.bind ?_ (fun _ => ?_))
      | exact ih0 _ _ _
      | exact ih1 _ _ _
      | exact ih2 _ _ _ _
      | exact flagstonedata_Samples.mono _ _ _
      | exact flagstonelaw39_awake.mono _
      | exact flagstoneref39_Class.mono _ _
      | exact flagstoneref39_Predict.mono _ _ _ _ _
      | exact score_Class.mono _ _
      | exact score_Predict.mono _ _ _ _ _
      | exact LeO.none _
      | refine LeO.ite ?_ ?_
      | refine LeO.bind ?_ (fun _ => ?_)
theorem flagstonelaw39_ScorePredicts.mono : ∀ a0 a1 a2 a3 a4 k, LeO (flagstonelaw39_ScorePredicts.f k a0 a1 a2 a3 a4) (flagstonelaw39_ScorePredicts.f (k + 1) a0 a1 a2 a3 a4) := by
  intro a0 a1 a2 a3 a4 k
  obtain ⟨ih0, ih1, ih2⟩ := flagstonelaw39_ScorePredicts.mono_l k
  unfold flagstonelaw39_ScorePredicts.f
  repeat' first
      | (with_reducible exact ih0 _ _ _)
      | (with_reducible exact ih1 _ _ _)
      | (with_reducible exact ih2 _ _ _ _)
      | (with_reducible exact flagstonedata_Samples.mono _ _ _)
      | (with_reducible exact flagstonelaw39_awake.mono _)
      | (with_reducible exact flagstoneref39_Class.mono _ _)
      | (with_reducible exact flagstoneref39_Predict.mono _ _ _ _ _)
      | (with_reducible exact score_Class.mono _ _)
      | (with_reducible exact score_Predict.mono _ _ _ _ _)
      | (with_reducible exact LeO.refl _)
      | (with_reducible exact LeO.none _)
      | (with_reducible refine LeO.ite ?_ ?_)
      | (with_reducible refine LeO.bind ?_ (fun _ => ?_))
      | exact ih0 _ _ _
      | exact ih1 _ _ _
      | exact ih2 _ _ _ _
      | exact flagstonedata_Samples.mono _ _ _
      | exact flagstonelaw39_awake.mono _
      | exact flagstoneref39_Class.mono _ _
      | exact flagstoneref39_Predict.mono _ _ _ _ _
      | exact score_Class.mono _ _
      | exact score_Predict.mono _ _ _ _ _
      | exact LeO.none _
      | refine LeO.ite ?_ ?_
      | refine LeO.bind ?_ (fun _ => ?_)
set_option maxHeartbeats 8000000 in
set_option maxRecDepth 100000 in
theorem flagstonelaw39_ScorePredicts.calls (k : Nat) (A0 : Option Addr) (c0 : Nat) (l0 : List Int) (a1 : Int) (a2 : Int) (a3 : Int) (a4 : Int) (r : Bool) (w : World) (hr0 : Kd.C (Kd.int .u8) w A0 l0.length l0) (hc0 : l0.length ≤ c0) (h : flagstonelaw39_ScorePredicts.f k l0 a1 a2 a3 a4 = some r) :
    Calls Try.prog 3 #[.slice A0 l0.length c0, .int .i64 a1, .int .i64 a2, .int .i64 a3, .int .u16 a4] w fun e w' => e = .returned (.bool r) ∧ Below w.heap.size w w' := by
  have HR0 := Aside0.mk hr0
  have HC0 := Aside0.mk hc0
  clear hr0 hc0
  have HB := Aside0.mk (Below.refl w.heap.size w)
  have H : ((flagstonelaw39_awake.f k).bind fun t191 => (if t191 = true then (if (l0.length : Int) > 200 then (some true) else ((flagstonedata_Samples.f k l0 (wrap64 (a4))).bind fun t192 => ((score_Class.f k a1).bind fun t195 => ((flagstoneref39_Class.f k a1).bind fun t196 => (if t195 = t196 then ((score_Class.f k (a1 / 1125899906842624)).bind fun t197 => ((flagstoneref39_Class.f k (a1 / 1125899906842624)).bind fun t198 => (if t197 = t198 then ((score_Predict.f k t192 a2 a3 (wrap64 (a4))).bind fun t199 => ((flagstoneref39_Predict.f k t192 a2 a3 (wrap64 (a4))).bind fun t200 => (flagstonelaw39_ScorePredicts.j0 k (wrap64 (a4)) t192 (t199 != t200)))) else (flagstonelaw39_ScorePredicts.j0 k (wrap64 (a4)) t192 true)))) else (flagstonelaw39_ScorePredicts.j0 k (wrap64 (a4)) t192 true)))))) else (some false))) = some r := h
  clear h
  replace H := Option.bind_eq_some_iff.mp H
  obtain ⟨t191, A60, H⟩ := H
  replace H : (if t191 = true then (if (l0.length : Int) > 200 then (some true) else ((flagstonedata_Samples.f k l0 (wrap64 (a4))).bind fun t192 => ((score_Class.f k a1).bind fun t195 => ((flagstoneref39_Class.f k a1).bind fun t196 => (if t195 = t196 then ((score_Class.f k (a1 / 1125899906842624)).bind fun t197 => ((flagstoneref39_Class.f k (a1 / 1125899906842624)).bind fun t198 => (if t197 = t198 then ((score_Predict.f k t192 a2 a3 (wrap64 (a4))).bind fun t199 => ((flagstoneref39_Predict.f k t192 a2 a3 (wrap64 (a4))).bind fun t200 => (flagstonelaw39_ScorePredicts.j0 k (wrap64 (a4)) t192 (t199 != t200)))) else (flagstonelaw39_ScorePredicts.j0 k (wrap64 (a4)) t192 true)))) else (flagstonelaw39_ScorePredicts.j0 k (wrap64 (a4)) t192 true)))))) else (some false)) = some r := H
  have A6 := Aside0.mk A60
  clear A60
  by_cases c7 : t191 = true
  · subst c7
    have H1 : (if (l0.length : Int) > 200 then (some true) else ((flagstonedata_Samples.f k l0 (wrap64 (a4))).bind fun t192 => ((score_Class.f k a1).bind fun t195 => ((flagstoneref39_Class.f k a1).bind fun t196 => (if t195 = t196 then ((score_Class.f k (a1 / 1125899906842624)).bind fun t197 => ((flagstoneref39_Class.f k (a1 / 1125899906842624)).bind fun t198 => (if t197 = t198 then ((score_Predict.f k t192 a2 a3 (wrap64 (a4))).bind fun t199 => ((flagstoneref39_Predict.f k t192 a2 a3 (wrap64 (a4))).bind fun t200 => (flagstonelaw39_ScorePredicts.j0 k (wrap64 (a4)) t192 (t199 != t200)))) else (flagstonelaw39_ScorePredicts.j0 k (wrap64 (a4)) t192 true)))) else (flagstonelaw39_ScorePredicts.j0 k (wrap64 (a4)) t192 true)))))) = some r := by rw [if_pos rfl] at H; exact H
    clear H
    have H := H1
    clear H1
    by_cases c8 : (l0.length : Int) > 200
    · rw [if_pos c8] at H
      have c8b0 : decide (200 < (l0.length : Int)) = true := decide_eq_true c8
      have c8b1 : decide (200 < l0.length) = true := decide_eq_true (by omega)
      clear c8
      obtain rfl := Option.some.inj H
      go_enter Try.func3, Try.ntmps3
      go_wp2_with (first | ((with_reducible refine gate_callee (f := 11) rfl ?_); refine goesL_ (some 15) rfl rfl Try.func11 (by kernel_rfl) rfl #[] rfl (by (try simp only [List.map_toArray, List.map_cons, List.map_nil]); first | done | rfl | (simp only [List.length_drop, List.length_take]; rfl)) ?_; (with_reducible refine (flagstonelaw39_awake.calls k  true _ A6.out).mono ?_); rintro e w9 ⟨rfl, hb⟩; refine ⟨_, rfl, ?_⟩; have n0_ := Aside0.mk (below_step (by repeat (first | (with_reducible first | exact HB.out | apply below_alloc | apply pw_below_drewN | apply below_drew1) | exact HB.out)) hb); clear HB; have HB := n0_; clear n0_; (try clear hb); (try clear hb2); (try clear hk); (try clear hi)))
      go_ret
      exact ⟨by first | rfl | (simp [errW_none, errW_some] <;> rfl) | (simp [*, errW_none, errW_some] <;> rfl), by repeat (first | (with_reducible first | exact HB.out | apply below_alloc | apply pw_below_drewN | apply below_drew1) | exact HB.out)⟩
    · rw [if_neg c8] at H
      have c8b0 : decide (200 < (l0.length : Int)) = false := decide_eq_false c8
      have c8b1 : decide (200 < l0.length) = false := decide_eq_false (by omega)
      clear c8
      replace H := Option.bind_eq_some_iff.mp H
      obtain ⟨t192, A100, H⟩ := H
      replace H : ((score_Class.f k a1).bind fun t195 => ((flagstoneref39_Class.f k a1).bind fun t196 => (if t195 = t196 then ((score_Class.f k (a1 / 1125899906842624)).bind fun t197 => ((flagstoneref39_Class.f k (a1 / 1125899906842624)).bind fun t198 => (if t197 = t198 then ((score_Predict.f k t192 a2 a3 (wrap64 (a4))).bind fun t199 => ((flagstoneref39_Predict.f k t192 a2 a3 (wrap64 (a4))).bind fun t200 => (flagstonelaw39_ScorePredicts.j0 k (wrap64 (a4)) t192 (t199 != t200)))) else (flagstonelaw39_ScorePredicts.j0 k (wrap64 (a4)) t192 true)))) else (flagstonelaw39_ScorePredicts.j0 k (wrap64 (a4)) t192 true)))) = some r := H
      have A10 := Aside0.mk A100
      clear A100
      have HC11 := Aside0.mk H
      clear H
      go_enter Try.func3, Try.ntmps3
      go_upto_region 7 with (first | ((with_reducible refine gate_callee (f := 11) rfl ?_); refine goesL_ (some 15) rfl rfl Try.func11 (by kernel_rfl) rfl #[] rfl (by (try simp only [List.map_toArray, List.map_cons, List.map_nil]); first | done | rfl | (simp only [List.length_drop, List.length_take]; rfl)) ?_; (with_reducible refine (flagstonelaw39_awake.calls k  true _ A6.out).mono ?_); rintro e w12 ⟨rfl, hb⟩; refine ⟨_, rfl, ?_⟩; have n0_ := Aside0.mk (below_step (by repeat (first | (with_reducible first | exact HB.out | apply below_alloc | apply pw_below_drewN | apply below_drew1) | exact HB.out)) hb); clear HB; have HB := n0_; clear n0_; (try clear hb); (try clear hb2); (try clear hk); (try clear hi)) | ((with_reducible refine gate_callee (f := 12) rfl ?_); refine goesL_ (some 24) rfl rfl Try.func12 (by kernel_rfl) rfl #[.slice A0 l0.length c0, .int .i64 (wrap64 (a4))] rfl (by (try simp only [List.map_toArray, List.map_cons, List.map_nil]); first | done | rfl | (simp only [List.length_drop, List.length_take]; rfl)) ?_; (with_reducible refine (flagstonedata_Samples.calls k _ _ l0 (wrap64 (a4)) t192 _ ?side1 ?side2 A10.out).mono ?_); (case side1 => repeat (first | exact (Kd.C_below HR0.out HB.out) | (with_reducible refine Kd.C_alloc ?_ _) | (with_reducible refine Kd.C_drewN ?_ _) | (with_reducible refine Kd.C_drew ?_))); (case side2 => exact HC0.out); rintro e w13 ⟨v193, rfl, ho0, hb⟩; refine ⟨_, rfl, ?_⟩; have n0_ := Aside0.mk (Kd.R_lower ho0 (below_size (by repeat (first | (with_reducible first | exact HB.out | apply below_alloc | apply pw_below_drewN | apply below_drew1) | exact HB.out)))); have n1_ := Aside0.mk (below_step (by repeat (first | (with_reducible first | exact HB.out | apply below_alloc | apply pw_below_drewN | apply below_drew1) | exact HB.out)) hb); clear HB; have HO194 := n0_; have HB := n1_; clear n0_ n1_; (try clear hb); (try clear hb2); (try clear hk); (try clear hi); (try clear ho0)))
      (try simp only [Act.put, List.setIfInBounds_toArray, List.set_cons_zero, List.set_cons_succ])
      go_cut [51] (fun v51 wc => ∃ (kq : Nat) (x51_10 : Bool), v51 = .bool x51_10 ∧ Aside0 (flagstonelaw39_ScorePredicts.j0 kq (wrap64 (a4)) t192 x51_10 = some r) ∧ Aside0 (kq ≤ k) ∧ Aside0 (Kd.R k34 34 wc w.heap.size (fun _ => True) v193 t192) ∧ Aside0 (Below w.heap.size w wc))
      case first =>
        have H := HC11.out
        clear HC11
        replace H := Option.bind_eq_some_iff.mp H
        obtain ⟨t195, A140, H⟩ := H
        replace H : ((flagstoneref39_Class.f k a1).bind fun t196 => (if t195 = t196 then ((score_Class.f k (a1 / 1125899906842624)).bind fun t197 => ((flagstoneref39_Class.f k (a1 / 1125899906842624)).bind fun t198 => (if t197 = t198 then ((score_Predict.f k t192 a2 a3 (wrap64 (a4))).bind fun t199 => ((flagstoneref39_Predict.f k t192 a2 a3 (wrap64 (a4))).bind fun t200 => (flagstonelaw39_ScorePredicts.j0 k (wrap64 (a4)) t192 (t199 != t200)))) else (flagstonelaw39_ScorePredicts.j0 k (wrap64 (a4)) t192 true)))) else (flagstonelaw39_ScorePredicts.j0 k (wrap64 (a4)) t192 true))) = some r := H
        have A14 := Aside0.mk A140
        clear A140
        replace H := Option.bind_eq_some_iff.mp H
        obtain ⟨t196, A150, H⟩ := H
        replace H : (if t195 = t196 then ((score_Class.f k (a1 / 1125899906842624)).bind fun t197 => ((flagstoneref39_Class.f k (a1 / 1125899906842624)).bind fun t198 => (if t197 = t198 then ((score_Predict.f k t192 a2 a3 (wrap64 (a4))).bind fun t199 => ((flagstoneref39_Predict.f k t192 a2 a3 (wrap64 (a4))).bind fun t200 => (flagstonelaw39_ScorePredicts.j0 k (wrap64 (a4)) t192 (t199 != t200)))) else (flagstonelaw39_ScorePredicts.j0 k (wrap64 (a4)) t192 true)))) else (flagstonelaw39_ScorePredicts.j0 k (wrap64 (a4)) t192 true)) = some r := H
        have A15 := Aside0.mk A150
        clear A150
        by_cases c16 : t195 = t196
        · rw [if_pos c16] at H
          have c16b0 : (t195 == t196) = true := beq_iff_eq.mpr c16
          have c16b1 : (t195 != t196) = false := bne_eq_false_iff_eq.mpr c16
          clear c16
          (first | rw [c16b0] | (simp only [i64_w, i32_w]; rw [c16b0]) | skip)
          replace H := Option.bind_eq_some_iff.mp H
          obtain ⟨t197, A170, H⟩ := H
          replace H : ((flagstoneref39_Class.f k (a1 / 1125899906842624)).bind fun t198 => (if t197 = t198 then ((score_Predict.f k t192 a2 a3 (wrap64 (a4))).bind fun t199 => ((flagstoneref39_Predict.f k t192 a2 a3 (wrap64 (a4))).bind fun t200 => (flagstonelaw39_ScorePredicts.j0 k (wrap64 (a4)) t192 (t199 != t200)))) else (flagstonelaw39_ScorePredicts.j0 k (wrap64 (a4)) t192 true))) = some r := H
          have A17 := Aside0.mk A170
          clear A170
          replace H := Option.bind_eq_some_iff.mp H
          obtain ⟨t198, A180, H⟩ := H
          replace H : (if t197 = t198 then ((score_Predict.f k t192 a2 a3 (wrap64 (a4))).bind fun t199 => ((flagstoneref39_Predict.f k t192 a2 a3 (wrap64 (a4))).bind fun t200 => (flagstonelaw39_ScorePredicts.j0 k (wrap64 (a4)) t192 (t199 != t200)))) else (flagstonelaw39_ScorePredicts.j0 k (wrap64 (a4)) t192 true)) = some r := H
          have A18 := Aside0.mk A180
          clear A180
          by_cases c19 : t197 = t198
          · rw [if_pos c19] at H
            have c19b0 : (t197 == t198) = true := beq_iff_eq.mpr c19
            have c19b1 : (t197 != t198) = false := bne_eq_false_iff_eq.mpr c19
            clear c19
            replace H := Option.bind_eq_some_iff.mp H
            obtain ⟨t199, A200, H⟩ := H
            replace H : ((flagstoneref39_Predict.f k t192 a2 a3 (wrap64 (a4))).bind fun t200 => (flagstonelaw39_ScorePredicts.j0 k (wrap64 (a4)) t192 (t199 != t200))) = some r := H
            have A20 := Aside0.mk A200
            clear A200
            replace H := Option.bind_eq_some_iff.mp H
            obtain ⟨t200, A210, H⟩ := H
            replace H : (flagstonelaw39_ScorePredicts.j0 k (wrap64 (a4)) t192 (t199 != t200)) = some r := H
            have A21 := Aside0.mk A210
            clear A210
            have H' := Aside0.mk H
            clear H
            go_wp2_with (first | ((with_reducible refine gate_callee (f := 13) rfl ?_); refine goesL_ (some 26) rfl rfl Try.func13 (by kernel_rfl) rfl #[.int .i64 a1] rfl (by (try simp only [List.map_toArray, List.map_cons, List.map_nil]); first | done | rfl | (simp only [List.length_drop, List.length_take]; rfl)) ?_; (with_reducible refine (score_Class.calls k a1 t195 _ A14.out).mono ?_); rintro e w22 ⟨rfl, hb⟩; refine ⟨_, rfl, ?_⟩; have n0_ := Aside0.mk (Kd.R_below (by (with_reducible repeat (first | apply Kd.R_alloc | apply Kd.R_drewN | apply Kd.R_drew)); exact HO194.out) hb); have n1_ := Aside0.mk (below_step (by repeat (first | (with_reducible first | exact HB.out | apply below_alloc | apply pw_below_drewN | apply below_drew1) | exact HB.out)) hb); clear HO194; clear HB; have HO194 := n0_; have HB := n1_; clear n0_ n1_; (try clear hb); (try clear hb2); (try clear hk); (try clear hi)) | ((with_reducible refine gate_callee (f := 14) rfl ?_); refine goesL_ (some 28) rfl rfl Try.func14 (by kernel_rfl) rfl #[.int .i64 a1] rfl (by (try simp only [List.map_toArray, List.map_cons, List.map_nil]); first | done | rfl | (simp only [List.length_drop, List.length_take]; rfl)) ?_; (with_reducible refine (flagstoneref39_Class.calls k a1 t196 _ A15.out).mono ?_); rintro e w' ⟨rfl, ⟨nd, rfl⟩⟩; refine ⟨_, rfl, ?_⟩) | (go_at_call 13; (with_reducible refine (score_Class.calls k (a1 / 1125899906842624) t197 _ A17.out).mono ?_); rintro e w23 ⟨rfl, hb⟩; have n0_ := Aside0.mk (Kd.R_below (by (with_reducible repeat (first | apply Kd.R_alloc | apply Kd.R_drewN | apply Kd.R_drew)); exact HO194.out) hb); have n1_ := Aside0.mk (below_step (by repeat (first | (with_reducible first | exact HB.out | apply below_alloc | apply pw_below_drewN | apply below_drew1) | exact HB.out)) hb); clear HO194; clear HB; have HO194 := n0_; have HB := n1_; clear n0_ n1_; (try clear hb); (try clear hb2); (try clear hk); (try clear hi)) | (go_at_call 14; (with_reducible refine (flagstoneref39_Class.calls k (a1 / 1125899906842624) t198 _ A18.out).mono ?_); rintro e w' ⟨rfl, ⟨nd, rfl⟩⟩; obtain ⟨Ao24, co24, eo24⟩ := Kd.R_slice HO194.out; subst eo24) | (go_at_call 15; (with_reducible refine (score_Predict.calls k _ _ t192 a2 a3 (wrap64 (a4)) t199 _ ?side1 ?side2 A20.out).mono ?_); (case side1 => repeat (first | exact (Kd.R_reads' HO194.out).2.2 | (with_reducible refine Kd.C_alloc ?_ _) | (with_reducible refine Kd.C_drewN ?_ _) | (with_reducible refine Kd.C_drew ?_))); (case side2 => exact (Kd.R_reads' HO194.out).2.1); rintro e w25 ⟨rfl, hb⟩; have n0_ := Aside0.mk (Kd.R_below (by (with_reducible repeat (first | apply Kd.R_alloc | apply Kd.R_drewN | apply Kd.R_drew)); exact HO194.out) hb); have n1_ := Aside0.mk (below_step (by repeat (first | (with_reducible first | exact HB.out | apply below_alloc | apply pw_below_drewN | apply below_drew1) | exact HB.out)) hb); clear HO194; clear HB; have HO194 := n0_; have HB := n1_; clear n0_ n1_; (try clear hb); (try clear hb2); (try clear hk); (try clear hi)) | (go_at_call 16; (with_reducible refine (flagstoneref39_Predict.calls k _ _ t192 a2 a3 (wrap64 (a4)) t200 _ ?side1 ?side2 A21.out).mono ?_); (case side1 => repeat (first | exact (Kd.R_reads' HO194.out).2.2 | (with_reducible refine Kd.C_alloc ?_ _) | (with_reducible refine Kd.C_drewN ?_ _) | (with_reducible refine Kd.C_drew ?_))); (case side2 => exact (Kd.R_reads' HO194.out).2.1); rintro e w' ⟨rfl, ⟨nd, rfl⟩⟩))
            go_meet
            case rel => exact ⟨_, ((t199 != t200)), (by first | rfl | (simp; done) | (simp [*]; done) | exact congrArg (Value.int _) (by unfold wrap64; omega)), H', ⟨by first | omega | exact Nat.le_refl _⟩, ⟨by (with_reducible repeat (first | apply Kd.R_alloc | apply Kd.R_drewN | apply Kd.R_drew)); exact HO194.out⟩, ⟨by repeat (first | (with_reducible first | exact HB.out | apply below_alloc | apply pw_below_drewN | apply below_drew1) | exact HB.out)⟩⟩
          · rw [if_neg c19] at H
            have c19b0 : (t197 == t198) = false := beq_eq_false_iff_ne.mpr c19
            have c19b1 : (t197 != t198) = true := bne_iff_ne.mpr c19
            have H' := Aside0.mk H
            clear H
            go_wp2_with (first | ((with_reducible refine gate_callee (f := 13) rfl ?_); refine goesL_ (some 26) rfl rfl Try.func13 (by kernel_rfl) rfl #[.int .i64 a1] rfl (by (try simp only [List.map_toArray, List.map_cons, List.map_nil]); first | done | rfl | (simp only [List.length_drop, List.length_take]; rfl)) ?_; (with_reducible refine (score_Class.calls k a1 t195 _ A14.out).mono ?_); rintro e w26 ⟨rfl, hb⟩; refine ⟨_, rfl, ?_⟩; have n0_ := Aside0.mk (Kd.R_below (by (with_reducible repeat (first | apply Kd.R_alloc | apply Kd.R_drewN | apply Kd.R_drew)); exact HO194.out) hb); have n1_ := Aside0.mk (below_step (by repeat (first | (with_reducible first | exact HB.out | apply below_alloc | apply pw_below_drewN | apply below_drew1) | exact HB.out)) hb); clear HO194; clear HB; have HO194 := n0_; have HB := n1_; clear n0_ n1_; (try clear hb); (try clear hb2); (try clear hk); (try clear hi)) | ((with_reducible refine gate_callee (f := 14) rfl ?_); refine goesL_ (some 28) rfl rfl Try.func14 (by kernel_rfl) rfl #[.int .i64 a1] rfl (by (try simp only [List.map_toArray, List.map_cons, List.map_nil]); first | done | rfl | (simp only [List.length_drop, List.length_take]; rfl)) ?_; (with_reducible refine (flagstoneref39_Class.calls k a1 t196 _ A15.out).mono ?_); rintro e w' ⟨rfl, ⟨nd, rfl⟩⟩; refine ⟨_, rfl, ?_⟩) | (go_at_call 13; (with_reducible refine (score_Class.calls k (a1 / 1125899906842624) t197 _ A17.out).mono ?_); rintro e w27 ⟨rfl, hb⟩; have n0_ := Aside0.mk (Kd.R_below (by (with_reducible repeat (first | apply Kd.R_alloc | apply Kd.R_drewN | apply Kd.R_drew)); exact HO194.out) hb); have n1_ := Aside0.mk (below_step (by repeat (first | (with_reducible first | exact HB.out | apply below_alloc | apply pw_below_drewN | apply below_drew1) | exact HB.out)) hb); clear HO194; clear HB; have HO194 := n0_; have HB := n1_; clear n0_ n1_; (try clear hb); (try clear hb2); (try clear hk); (try clear hi)) | (go_at_call 14; (with_reducible refine (flagstoneref39_Class.calls k (a1 / 1125899906842624) t198 _ A18.out).mono ?_); rintro e w' ⟨rfl, ⟨nd, rfl⟩⟩))
            go_meet
            case rel => exact ⟨_, (true), (by first | rfl | (simp; done) | (simp [*]; done) | exact congrArg (Value.int _) (by unfold wrap64; omega)), H', ⟨by first | omega | exact Nat.le_refl _⟩, ⟨by (with_reducible repeat (first | apply Kd.R_alloc | apply Kd.R_drewN | apply Kd.R_drew)); exact HO194.out⟩, ⟨by repeat (first | (with_reducible first | exact HB.out | apply below_alloc | apply pw_below_drewN | apply below_drew1) | exact HB.out)⟩⟩
        · rw [if_neg c16] at H
          have c16b0 : (t195 == t196) = false := beq_eq_false_iff_ne.mpr c16
          have c16b1 : (t195 != t196) = true := bne_iff_ne.mpr c16
          (first | rw [c16b0] | (simp only [i64_w, i32_w]; rw [c16b0]) | skip)
          have H' := Aside0.mk H
          clear H
          go_wp2_with (first | ((with_reducible refine gate_callee (f := 13) rfl ?_); refine goesL_ (some 26) rfl rfl Try.func13 (by kernel_rfl) rfl #[.int .i64 a1] rfl (by (try simp only [List.map_toArray, List.map_cons, List.map_nil]); first | done | rfl | (simp only [List.length_drop, List.length_take]; rfl)) ?_; (with_reducible refine (score_Class.calls k a1 t195 _ A14.out).mono ?_); rintro e w28 ⟨rfl, hb⟩; refine ⟨_, rfl, ?_⟩; have n0_ := Aside0.mk (Kd.R_below (by (with_reducible repeat (first | apply Kd.R_alloc | apply Kd.R_drewN | apply Kd.R_drew)); exact HO194.out) hb); have n1_ := Aside0.mk (below_step (by repeat (first | (with_reducible first | exact HB.out | apply below_alloc | apply pw_below_drewN | apply below_drew1) | exact HB.out)) hb); clear HO194; clear HB; have HO194 := n0_; have HB := n1_; clear n0_ n1_; (try clear hb); (try clear hb2); (try clear hk); (try clear hi)) | ((with_reducible refine gate_callee (f := 14) rfl ?_); refine goesL_ (some 28) rfl rfl Try.func14 (by kernel_rfl) rfl #[.int .i64 a1] rfl (by (try simp only [List.map_toArray, List.map_cons, List.map_nil]); first | done | rfl | (simp only [List.length_drop, List.length_take]; rfl)) ?_; (with_reducible refine (flagstoneref39_Class.calls k a1 t196 _ A15.out).mono ?_); rintro e w' ⟨rfl, ⟨nd, rfl⟩⟩; refine ⟨_, rfl, ?_⟩))
          go_meet
          case rel => exact ⟨_, (true), (by first | rfl | (simp; done) | (simp [*]; done) | exact congrArg (Value.int _) (by unfold wrap64; omega)), H', ⟨by first | omega | exact Nat.le_refl _⟩, ⟨by (with_reducible repeat (first | apply Kd.R_alloc | apply Kd.R_drewN | apply Kd.R_drew)); exact HO194.out⟩, ⟨by repeat (first | (with_reducible first | exact HB.out | apply below_alloc | apply pw_below_drewN | apply below_drew1) | exact HB.out)⟩⟩
      case rest =>
        clear HC11
        try clear c1
        try clear p2
        try clear c3
        try clear p6
        try clear c7
        try clear c8
        try clear c8b0
        try clear c8b1
        try clear c11
        try clear c12
        try clear c13
        try clear c14
        try clear c16
        try clear c16b0
        try clear c16b1
        try clear c19
        try clear c19b0
        try clear c19b1
        obtain ⟨kq, x51_10, rfl, HA, HJ10, HO_12, HB⟩ := hcut
        cases kq with
        | zero => exact absurd HA.out (by simp [flagstonelaw39_ScorePredicts.j0])
        | succ kj10 =>
          have H := HA.out
          clear HA
          simp only [flagstonelaw39_ScorePredicts.j0] at H
          by_cases c29 : x51_10 = true
          · subst c29
            have H1 : (some false) = some r := by rw [if_pos rfl] at H; exact H
            clear H
            have H := H1
            clear H1
            obtain rfl := Option.some.inj H
            go_wp2
            go_ret
            exact ⟨by first | rfl | (simp [errW_none, errW_some] <;> rfl) | (simp [*, errW_none, errW_some] <;> rfl), by repeat (first | (with_reducible first | exact HB.out | apply below_alloc | apply pw_below_drewN | apply below_drew1) | exact HB.out)⟩
          · replace c29 := Bool.eq_false_iff.mpr c29
            subst c29
            have H1 : (flagstonelaw39_ScorePredicts.l0 kj10 (wrap64 (a4)) t192 (-1)) = some r := by rw [if_neg (show ¬ (false = true) by decide)] at H; exact H
            clear H
            have H := H1
            clear H1
            have H' := Aside0.mk H
            clear H
            go_wp2
            go_loopg [13] kj10 (fun kq v13 w' => ∃ (x13_2 : Int), v13 = .int .i64 x13_2 ∧ Aside0 (flagstonelaw39_ScorePredicts.l0 kq (wrap64 (a4)) t192 x13_2 = some r) ∧ Aside0 (kq ≤ kj10) ∧ Aside0 (Kd.R k34 34 w' w.heap.size (fun _ => True) v193 t192) ∧ Aside0 (Below w.heap.size w w'))
            case atStart => exact ⟨((-1)), (by first | rfl | (simp; done) | (simp [*]; done) | exact congrArg (Value.int _) (by unfold wrap64; omega)), H', ⟨Nat.le_refl _⟩, ⟨by (with_reducible repeat (first | apply Kd.R_alloc | apply Kd.R_drewN | apply Kd.R_drew)); exact HO_12.out⟩, ⟨by repeat (first | (with_reducible first | exact HB.out | apply below_alloc | apply pw_below_drewN | apply below_drew1) | exact HB.out)⟩⟩
            case round =>
              clear H'
              try clear c1
              try clear c2
              try clear p2
              try clear c3
              try clear p6
              try clear c7
              try clear c8
              try clear c8b0
              try clear c8b1
              try clear c11
              try clear c12
              try clear c13
              try clear c14
              try clear c16
              try clear c16b0
              try clear c16b1
              try clear c19
              try clear c19b0
              try clear c19b1
              try clear c29
              try clear p2
              try clear p6
              obtain ⟨x13_2, rfl, HA, HK2, HO_12, HB⟩ := hrel
              cases gk with
              | zero => exact absurd HA.out (by simp [flagstonelaw39_ScorePredicts.l0])
              | succ k2 =>
                have H := HA.out
                clear HA
                simp only [flagstonelaw39_ScorePredicts.l0] at H
                by_cases c30 : x13_2 ≤ (t192.length : Int)
                · rw [if_pos c30] at H
                  have c30b0 : decide (x13_2 ≤ (t192.length : Int)) = true := decide_eq_true c30
                  clear c30
                  have H' := Aside0.mk H
                  clear H
                  obtain ⟨Ao31, co31, eo31⟩ := Kd.R_slice HO_12.out
                  subst eo31
                  go_wp2
                  go_loopg [14] k2 (fun kq v14 w' => ∃ (x14_3 : Int), v14 = .int .i64 x14_3 ∧ Aside0 (flagstonelaw39_ScorePredicts.l1 kq (wrap64 (a4)) t192 x13_2 x14_3 = some r) ∧ Aside0 (kq ≤ k2) ∧ Aside0 (Kd.R k34 34 w' w.heap.size (fun _ => True) (.slice Ao31 t192.length co31) t192) ∧ Aside0 (Below w.heap.size w w'))
                  case atStart => exact ⟨(0), (by first | rfl | (simp; done) | (simp [*]; done) | exact congrArg (Value.int _) (by unfold wrap64; omega)), H', ⟨Nat.le_refl _⟩, ⟨by (with_reducible repeat (first | apply Kd.R_alloc | apply Kd.R_drewN | apply Kd.R_drew)); exact HO_12.out⟩, ⟨by repeat (first | (with_reducible first | exact HB.out | apply below_alloc | apply pw_below_drewN | apply below_drew1) | exact HB.out)⟩⟩
                  case round =>
                    clear H'
                    try clear c1
                    try clear c2
                    try clear p2
                    try clear c3
                    try clear p6
                    try clear c7
                    try clear c8
                    try clear c8b0
                    try clear c8b1
                    try clear c11
                    try clear c12
                    try clear c13
                    try clear c14
                    try clear c16
                    try clear c16b0
                    try clear c16b1
                    try clear c19
                    try clear c19b0
                    try clear c19b1
                    try clear c29
                    try clear c30
                    try clear c30b0
                    try clear p2
                    try clear p6
                    obtain ⟨x14_3, rfl, HA, HK3, HO_12, HB⟩ := hrel
                    cases gk with
                    | zero => exact absurd HA.out (by simp [flagstonelaw39_ScorePredicts.l1])
                    | succ k3 =>
                      have H := HA.out
                      clear HA
                      simp only [flagstonelaw39_ScorePredicts.l1] at H
                      by_cases c32 : x14_3 ≤ 3
                      · rw [if_pos c32] at H
                        have c32b0 : decide (x14_3 ≤ 3) = true := decide_eq_true c32
                        clear c32
                        replace H := Option.bind_eq_some_iff.mp H
                        obtain ⟨t201, A330, H⟩ := H
                        replace H : ((flagstoneref39_Predict.f k3 t192 x13_2 x14_3 (wrap64 (a4))).bind fun t202 => (if t201 = t202 then (flagstonelaw39_ScorePredicts.l1 k3 (wrap64 (a4)) t192 x13_2 (wrap64 (x14_3 + 1))) else (some false))) = some r := H
                        have A33 := Aside0.mk A330
                        clear A330
                        replace H := Option.bind_eq_some_iff.mp H
                        obtain ⟨t202, A340, H⟩ := H
                        replace H : (if t201 = t202 then (flagstonelaw39_ScorePredicts.l1 k3 (wrap64 (a4)) t192 x13_2 (wrap64 (x14_3 + 1))) else (some false)) = some r := H
                        have A34 := Aside0.mk A340
                        clear A340
                        by_cases c35 : t201 = t202
                        · rw [if_pos c35] at H
                          have c35b0 : (t201 == t202) = true := beq_iff_eq.mpr c35
                          have c35b1 : (t201 != t202) = false := bne_eq_false_iff_eq.mpr c35
                          clear c35
                          have H' := Aside0.mk H
                          clear H
                          go_wp2_with (first | ((with_reducible refine gate_callee (f := 15) rfl ?_); refine goesL_ (some 66) rfl rfl Try.func15 (by kernel_rfl) rfl #[.slice Ao31 t192.length co31, .int .i64 x13_2, .int .i64 x14_3, .int .i64 (wrap64 (a4))] rfl (by (try simp only [List.map_toArray, List.map_cons, List.map_nil]); first | done | rfl | (simp only [List.length_drop, List.length_take]; rfl)) ?_; (with_reducible refine (score_Predict.calls k3 _ _ t192 x13_2 x14_3 (wrap64 (a4)) t201 _ ?side1 ?side2 A33.out).mono ?_); (case side1 => repeat (first | exact (Kd.R_reads' HO_12.out).2.2 | (with_reducible refine Kd.C_alloc ?_ _) | (with_reducible refine Kd.C_drewN ?_ _) | (with_reducible refine Kd.C_drew ?_))); (case side2 => exact (Kd.R_reads' HO_12.out).2.1); rintro e w36 ⟨rfl, hb⟩; refine ⟨_, rfl, ?_⟩; have n0_ := Aside0.mk (Kd.R_below (by (with_reducible repeat (first | apply Kd.R_alloc | apply Kd.R_drewN | apply Kd.R_drew)); exact HO_12.out) hb); have n1_ := Aside0.mk (below_step (by repeat (first | (with_reducible first | exact HB.out | apply below_alloc | apply pw_below_drewN | apply below_drew1) | exact HB.out)) hb); clear HO_12; clear HB; have HO_12 := n0_; have HB := n1_; clear n0_ n1_; (try clear hb); (try clear hb2); (try clear hk); (try clear hi)) | ((with_reducible refine gate_callee (f := 16) rfl ?_); refine goesL_ (some 71) rfl rfl Try.func16 (by kernel_rfl) rfl #[.slice Ao31 t192.length co31, .int .i64 x13_2, .int .i64 x14_3, .int .i64 (wrap64 (a4))] rfl (by (try simp only [List.map_toArray, List.map_cons, List.map_nil]); first | done | rfl | (simp only [List.length_drop, List.length_take]; rfl)) ?_; (with_reducible refine (flagstoneref39_Predict.calls k3 _ _ t192 x13_2 x14_3 (wrap64 (a4)) t202 _ ?side1 ?side2 A34.out).mono ?_); (case side1 => repeat (first | exact (Kd.R_reads' HO_12.out).2.2 | (with_reducible refine Kd.C_alloc ?_ _) | (with_reducible refine Kd.C_drewN ?_ _) | (with_reducible refine Kd.C_drew ?_))); (case side2 => exact (Kd.R_reads' HO_12.out).2.1); rintro e w' ⟨rfl, ⟨nd, rfl⟩⟩; refine ⟨_, rfl, ?_⟩))
                          go_roundg k3
                          case measure => have := HJ10.out; have := HK2.out; have := HK3.out; omega
                          case rel => exact ⟨(wrap64 (x14_3 + 1)), (by first | rfl | (simp; done) | (simp [*]; done) | exact congrArg (Value.int _) (by unfold wrap64; omega)), H', ⟨by have := HJ10.out; have := HK2.out; have := HK3.out; omega⟩, ⟨by (with_reducible repeat (first | apply Kd.R_alloc | apply Kd.R_drewN | apply Kd.R_drew)); exact HO_12.out⟩, ⟨by repeat (first | (with_reducible first | exact HB.out | apply below_alloc | apply pw_below_drewN | apply below_drew1) | exact HB.out)⟩⟩
                        · rw [if_neg c35] at H
                          have c35b0 : (t201 == t202) = false := beq_eq_false_iff_ne.mpr c35
                          have c35b1 : (t201 != t202) = true := bne_iff_ne.mpr c35
                          obtain rfl := Option.some.inj H
                          go_wp2_with (first | ((with_reducible refine gate_callee (f := 15) rfl ?_); refine goesL_ (some 66) rfl rfl Try.func15 (by kernel_rfl) rfl #[.slice Ao31 t192.length co31, .int .i64 x13_2, .int .i64 x14_3, .int .i64 (wrap64 (a4))] rfl (by (try simp only [List.map_toArray, List.map_cons, List.map_nil]); first | done | rfl | (simp only [List.length_drop, List.length_take]; rfl)) ?_; (with_reducible refine (score_Predict.calls k3 _ _ t192 x13_2 x14_3 (wrap64 (a4)) t201 _ ?side1 ?side2 A33.out).mono ?_); (case side1 => repeat (first | exact (Kd.R_reads' HO_12.out).2.2 | (with_reducible refine Kd.C_alloc ?_ _) | (with_reducible refine Kd.C_drewN ?_ _) | (with_reducible refine Kd.C_drew ?_))); (case side2 => exact (Kd.R_reads' HO_12.out).2.1); rintro e w37 ⟨rfl, hb⟩; refine ⟨_, rfl, ?_⟩; have n0_ := Aside0.mk (Kd.R_below (by (with_reducible repeat (first | apply Kd.R_alloc | apply Kd.R_drewN | apply Kd.R_drew)); exact HO_12.out) hb); have n1_ := Aside0.mk (below_step (by repeat (first | (with_reducible first | exact HB.out | apply below_alloc | apply pw_below_drewN | apply below_drew1) | exact HB.out)) hb); clear HO_12; clear HB; have HO_12 := n0_; have HB := n1_; clear n0_ n1_; (try clear hb); (try clear hb2); (try clear hk); (try clear hi)) | ((with_reducible refine gate_callee (f := 16) rfl ?_); refine goesL_ (some 71) rfl rfl Try.func16 (by kernel_rfl) rfl #[.slice Ao31 t192.length co31, .int .i64 x13_2, .int .i64 x14_3, .int .i64 (wrap64 (a4))] rfl (by (try simp only [List.map_toArray, List.map_cons, List.map_nil]); first | done | rfl | (simp only [List.length_drop, List.length_take]; rfl)) ?_; (with_reducible refine (flagstoneref39_Predict.calls k3 _ _ t192 x13_2 x14_3 (wrap64 (a4)) t202 _ ?side1 ?side2 A34.out).mono ?_); (case side1 => repeat (first | exact (Kd.R_reads' HO_12.out).2.2 | (with_reducible refine Kd.C_alloc ?_ _) | (with_reducible refine Kd.C_drewN ?_ _) | (with_reducible refine Kd.C_drew ?_))); (case side2 => exact (Kd.R_reads' HO_12.out).2.1); rintro e w' ⟨rfl, ⟨nd, rfl⟩⟩; refine ⟨_, rfl, ?_⟩))
                          go_ret
                          exact ⟨by first | rfl | (simp [errW_none, errW_some] <;> rfl) | (simp [*, errW_none, errW_some] <;> rfl), by repeat (first | (with_reducible first | exact HB.out | apply below_alloc | apply pw_below_drewN | apply below_drew1) | exact HB.out)⟩
                      · rw [if_neg c32] at H
                        have c32b0 : decide (x14_3 ≤ 3) = false := decide_eq_false c32
                        clear c32
                        have H' := Aside0.mk H
                        clear H
                        go_wp2
                        go_roundg k3
                        case measure => have := HJ10.out; have := HK2.out; have := HK3.out; omega
                        case rel => exact ⟨(wrap64 (x13_2 + 1)), (by first | rfl | (simp; done) | (simp [*]; done) | exact congrArg (Value.int _) (by unfold wrap64; omega)), H', ⟨by have := HJ10.out; have := HK2.out; have := HK3.out; omega⟩, ⟨by (with_reducible repeat (first | apply Kd.R_alloc | apply Kd.R_drewN | apply Kd.R_drew)); exact HO_12.out⟩, ⟨by repeat (first | (with_reducible first | exact HB.out | apply below_alloc | apply pw_below_drewN | apply below_drew1) | exact HB.out)⟩⟩
                · rw [if_neg c30] at H
                  have c30b0 : decide (x13_2 ≤ (t192.length : Int)) = false := decide_eq_false c30
                  clear c30
                  obtain rfl := Option.some.inj H
                  obtain ⟨Ao38, co38, eo38⟩ := Kd.R_slice HO_12.out
                  subst eo38
                  go_wp2
                  go_ret
                  exact ⟨by first | rfl | (simp [errW_none, errW_some] <;> rfl) | (simp [*, errW_none, errW_some] <;> rfl), by repeat (first | (with_reducible first | exact HB.out | apply below_alloc | apply pw_below_drewN | apply below_drew1) | exact HB.out)⟩
  · replace c7 := Bool.eq_false_iff.mpr c7
    subst c7
    have H1 : (some false) = some r := by rw [if_neg (show ¬ (false = true) by decide)] at H; exact H
    clear H
    have H := H1
    clear H1
    obtain rfl := Option.some.inj H
    go_enter Try.func3, Try.ntmps3
    go_wp2_with (first | ((with_reducible refine gate_callee (f := 11) rfl ?_); refine goesL_ (some 15) rfl rfl Try.func11 (by kernel_rfl) rfl #[] rfl (by (try simp only [List.map_toArray, List.map_cons, List.map_nil]); first | done | rfl | (simp only [List.length_drop, List.length_take]; rfl)) ?_; (with_reducible refine (flagstonelaw39_awake.calls k  false _ A6.out).mono ?_); rintro e w39 ⟨rfl, hb⟩; refine ⟨_, rfl, ?_⟩; have n0_ := Aside0.mk (below_step (by repeat (first | (with_reducible first | exact HB.out | apply below_alloc | apply pw_below_drewN | apply below_drew1) | exact HB.out)) hb); clear HB; have HB := n0_; clear n0_; (try clear hb); (try clear hb2); (try clear hk); (try clear hi)))
    go_ret
    exact ⟨by first | rfl | (simp [errW_none, errW_some] <;> rfl) | (simp [*, errW_none, errW_some] <;> rfl), by repeat (first | (with_reducible first | exact HB.out | apply below_alloc | apply pw_below_drewN | apply below_drew1) | exact HB.out)⟩

/-- THE ONE PURE STATEMENT of flagstonelaw39_ScorePredicts: yours. -/
def flagstonelaw39_ScorePredicts.Pure : Prop := ∀ (l0 : List Int) (a1 : Int) (a2 : Int) (a3 : Int) (a4 : Int), l0.length ≤ maxLen → l0.length * 1 ≤ 140737488351232 → (∀ x ∈ l0, (Lit.int .u8 x).wf = true) → (Lit.int .i64 a1).wf = true → (Lit.int .i64 a2).wf = true → (Lit.int .i64 a3).wf = true → (Lit.int .u16 a4).wf = true → ∃ k, flagstonelaw39_ScorePredicts.f k l0 a1 a2 a3 a4 = some true
theorem flagstonelaw39_ScorePredicts.walk (P : flagstonelaw39_ScorePredicts.Pure) (a0 : Option Addr) (len0 cap0 : Nat) (z0 : List Int) (a1 : Int) (a2 : Int) (a3 : Int) (a4 : Int) (w : World) (w0 : (a0 = none ∧ len0 = 0 ∧ cap0 = 0 ∧ z0 = []) ∨ ∃ x, a0 = some x ∧ len0 ≤ cap0 ∧ cap0 ≤ maxLen ∧ z0.length = cap0 ∧ (∀ i, i < z0.length → w.cell? (x.add i) = some (.int .u8 (z0.getD i 0))) ∧ ∀ n ∈ z0, (Lit.int .u8 n).wf = true) (y0 : len0 * 1 ≤ 140737488351232) (w1 : (Lit.int .i64 a1).wf = true) (w2 : (Lit.int .i64 a2).wf = true) (w3 : (Lit.int .i64 a3).wf = true) (w4 : (Lit.int .u16 a4).wf = true) :
    Calls Try.prog 3 #[.slice a0 len0 cap0, .int .i64 a1, .int .i64 a2, .int .i64 a3, .int .u16 a4] w fun e w' => e = .returned (.bool true) ∧ Below w.heap.size w w' := by
  obtain ⟨l0, rfl, hr0, hm0, hw0, hc0⟩ := ReadsInt.ofRowC w0
  obtain ⟨k, h⟩ := P l0 a1 a2 a3 a4 hm0 y0 hw0 w1 w2 w3 w4
  refine (flagstonelaw39_ScorePredicts.calls k _ _ l0 a1 a2 a3 a4 true w (Kd.C_of_reads (d := (0 : Int)) (h1 := fun _ => rfl) hr0) hc0 h).mono ?_
  rintro e w' ⟨rfl, hd⟩
  exact ⟨rfl, hd⟩

end Go.Proofs.Ytdmhdbebjjhopaa.PA
