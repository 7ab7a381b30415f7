-- Written by a program of this seat's session (wip/tools/ownprint.py, over the kit's printer) out of the translation: functions and their contracts.
import Derived.Test.YtafcnpfhihnmgaaPA0
import Derived.Test.YtafcnpfhihnmgaaPA2
import Derived.Test.YtafcnpfhihnmgaaPA3
import Derived.Test.YtafcnpfhihnmgaaPA8
namespace Go.Proofs.Ytafcnpfhihnmgaa.PA
open Go.RowKit Go.Proofs.YtafcnpfhihnmgaaW.PrintWords Go.Proofs.YtafcnpfhihnmgaaW.PrintLast Go.Proofs.YtafcnpfhihnmgaaW.PrintMore
attribute [local go_sem] max2_int min2_int max_two min_two max_three min_three max_four min_four   -- for this text's walks alone
set_option linter.unusedVariables false
set_option linter.unusedSimpArgs false

/-! ### flagstonelaw40_WealthMonotone: function 8 -/
mutual
def flagstonelaw40_WealthMonotone.j0 : Nat → List (S28) → Int → Int → Option (Bool)
  | 0, _, _, _ => none
  | k + 1, x7, x8, x9 => (wealth_Path.f k x7 x8 true).bind fun t255 => ((wealth_Path.f k x7 x9 true).bind fun t258 => ((wealth_Path.f k x7 x8 false).bind fun t261 => ((wealth_Path.f k x7 x9 false).bind fun t264 => (if (t255.length : Int) = (x7.length : Int) then (if (t258.length : Int) = (x7.length : Int) then (if (t261.length : Int) = (x7.length : Int) then (flagstonelaw40_WealthMonotone.j1 k x7 t255 t258 t261 t264 ((t264.length : Int) != (x7.length : Int))) else (flagstonelaw40_WealthMonotone.j1 k x7 t255 t258 t261 t264 true)) else (flagstonelaw40_WealthMonotone.j1 k x7 t255 t258 t261 t264 true)) else (flagstonelaw40_WealthMonotone.j1 k x7 t255 t258 t261 t264 true)))))
def flagstonelaw40_WealthMonotone.j1 : Nat → List (S28) → List Int → List Int → List Int → List Int → Bool → Option (Bool)
  | 0, _, _, _, _, _, _ => none
  | k + 1, x7, x10, x11, x12, x13, x74 => if x74 = true then (some false) else (flagstonelaw40_WealthMonotone.l0 k x7 x10 x11 x12 x13 0)
def flagstonelaw40_WealthMonotone.l0 : Nat → List (S28) → List Int → List Int → List Int → List Int → Int → Option (Bool)
  | 0, _, _, _, _, _, _ => none
  | k + 1, x7, x10, x11, x12, x13, x14 => if x14 < (x7.length : Int) then (if 0 ≤ x14 then (if x14 < (x10.length : Int) then (if x14 < (x11.length : Int) then (if (rd x10 x14) < (rd x11 x14) then (flagstonelaw40_WealthMonotone.j3 k x7 x10 x11 x12 x13 x14 true) else (if x14 < (x12.length : Int) then (if x14 < (x13.length : Int) then (if (rd x12 x14) > (rd x13 x14) then (flagstonelaw40_WealthMonotone.j3 k x7 x10 x11 x12 x13 x14 true) else (if (rd x10 x14) < 0 then (flagstonelaw40_WealthMonotone.j3 k x7 x10 x11 x12 x13 x14 true) else (flagstonelaw40_WealthMonotone.j3 k x7 x10 x11 x12 x13 x14 (decide ((rd x10 x14) > 2305843009213693952))))) else (none)) else (none))) else (none)) else (none)) else (none)) else (some true)
def flagstonelaw40_WealthMonotone.j3 : Nat → List (S28) → List Int → List Int → List Int → List Int → Int → Bool → Option (Bool)
  | 0, _, _, _, _, _, _, _ => none
  | k + 1, x7, x10, x11, x12, x13, x14, x114 => if x114 = true then (some false) else (flagstonelaw40_WealthMonotone.l0 k x7 x10 x11 x12 x13 (wrap64 (x14 + 1)))
end
def flagstonelaw40_WealthMonotone.f (k : Nat) (l0 : List Int) (a1 : Int) (a2 : Int) : Option (Bool) := (flagstonelaw40_awake.f k).bind fun t251 => (if t251 = true then (if (l0.length : Int) > 100 then (some true) else ((flagstonedata_Scores.f k l0).bind fun t252 => (if (Int.tmod (wrap64 (mn a1 a2)) 1001) > (Int.tmod (wrap64 (mx a1 a2)) 1001) then (flagstonelaw40_WealthMonotone.j0 k t252 (Int.tmod (wrap64 (mx a1 a2)) 1001) (Int.tmod (wrap64 (mn a1 a2)) 1001)) else (flagstonelaw40_WealthMonotone.j0 k t252 (Int.tmod (wrap64 (mn a1 a2)) 1001) (Int.tmod (wrap64 (mx a1 a2)) 1001))))) else (some false))
theorem flagstonelaw40_WealthMonotone.mono_l : ∀ k, (∀ y0 y1 y2, LeO (flagstonelaw40_WealthMonotone.j0 k y0 y1 y2) (flagstonelaw40_WealthMonotone.j0 (k + 1) y0 y1 y2)) ∧ (∀ y0 y1 y2 y3 y4 y5, LeO (flagstonelaw40_WealthMonotone.j1 k y0 y1 y2 y3 y4 y5) (flagstonelaw40_WealthMonotone.j1 (k + 1) y0 y1 y2 y3 y4 y5)) ∧ (∀ y0 y1 y2 y3 y4 y5, LeO (flagstonelaw40_WealthMonotone.l0 k y0 y1 y2 y3 y4 y5) (flagstonelaw40_WealthMonotone.l0 (k + 1) y0 y1 y2 y3 y4 y5)) ∧ (∀ y0 y1 y2 y3 y4 y5 y6, LeO (flagstonelaw40_WealthMonotone.j3 k y0 y1 y2 y3 y4 y5 y6) (flagstonelaw40_WealthMonotone.j3 (k + 1) y0 y1 y2 y3 y4 y5 y6))
  | 0 => ⟨fun _ _ _ r h => by simp [flagstonelaw40_WealthMonotone.j0] at h, fun _ _ _ _ _ _ r h => by simp [flagstonelaw40_WealthMonotone.j1] at h, fun _ _ _ _ _ _ r h => by simp [flagstonelaw40_WealthMonotone.l0] at h, fun _ _ _ _ _ _ _ r h => by simp [flagstonelaw40_WealthMonotone.j3] at h⟩
  | k + 1 => by
    obtain ⟨ih0, ih1, ih2, ih3⟩ := flagstonelaw40_WealthMonotone.mono_l k
    refine ⟨?_, ?_, ?_, ?_⟩
    · intro y0 y1 y2
      unfold flagstonelaw40_WealthMonotone.j0
      repeat' first
      | (with_reducible exact ih0 _ _ _)
      | (with_reducible exact ih1 _ _ _ _ _ _)
      | (with_reducible exact ih2 _ _ _ _ _ _)
      | (with_reducible exact ih3 _ _ _ _ _ _ _)
      | (with_reducible exact flagstonedata_Scores.mono _ _)
      | (with_reducible exact flagstonelaw40_awake.mono _)
      | (with_reducible exact wealth_Path.mono _ _ _ _)
      | (with_reducible exact LeO.refl _)
      | (with_reducible exact LeO.none _)
      | (with_reducible refine LeO.ite ?_ ?_)
      | (with_reducible refine LeO.bind ?_ (fun _ => ?_))
      | exact ih0 _ _ _
      | exact ih1 _ _ _ _ _ _
      | exact ih2 _ _ _ _ _ _
      | exact ih3 _ _ _ _ _ _ _
      | exact flagstonedata_Scores.mono _ _
      | exact flagstonelaw40_awake.mono _
      | exact wealth_Path.mono _ _ _ _
      | exact LeO.none _
      | refine LeO.ite ?_ ?_
      | refine LeO.bind ?_ (fun _ => ?_)
    · intro y0 y1 y2 y3 y4 y5
      unfold flagstonelaw40_WealthMonotone.j1
      repeat' first
      | (with_reducible exact ih0 _ _ _)
      | (with_reducible exact ih1 _ _ _ _ _ _)
      | (with_reducible exact ih2 _ _ _ _ _ _)
      | (with_reducible exact ih3 _ _ _ _ _ _ _)
      | (with_reducible exact flagstonedata_Scores.mono _ _)
      | (with_reducible exact flagstonelaw40_awake.mono _)
      | (with_reducible exact wealth_Path.mono _ _ _ _)
      | (with_reducible exact LeO.refl _)
      | (with_reducible exact LeO.none _)
      | (with_reducible refine LeO.ite ?_ ?_)
      | (with_reducible refine LeO.bind ?_ (fun _ => ?_))
      | exact ih0 _ _ _
      | exact ih1 _ _ _ _ _ _
      | exact ih2 _ _ _ _ _ _
      | exact ih3 _ _ _ _ _ _ _
      | exact flagstonedata_Scores.mono _ _
      | exact flagstonelaw40_awake.mono _
      | exact wealth_Path.mono _ _ _ _
      | exact LeO.none _
      | refine LeO.ite ?_ ?_
      | refine LeO.bind ?_ (fun _ => ?_)
    · intro y0 y1 y2 y3 y4 y5
      unfold flagstonelaw40_WealthMonotone.l0
      repeat' first
      | (with_reducible exact ih0 _ _ _)
      | (with_reducible exact ih1 _ _ _ _ _ _)
      | (with_reducible exact ih2 _ _ _ _ _ _)
      | (with_reducible exact ih3 _ _ _ _ _ _ _)
      | (with_reducible exact flagstonedata_Scores.mono _ _)
      | (with_reducible exact flagstonelaw40_awake.mono _)
      | (with_reducible exact wealth_Path.mono _ _ _ _)
      | (with_reducible exact LeO.refl _)
      | (with_reducible exact LeO.none _)
      | (with_reducible refine LeO.ite ?_ ?_)
      | (with_reducible refine LeO.bind ?_ (fun _ => ?_))
      | exact ih0 _ _ _
      | exact ih1 _ _ _ _ _ _
      | exact ih2 _ _ _ _ _ _
      | exact ih3 _ _ _ _ _ _ _
      | exact flagstonedata_Scores.mono _ _
      | exact flagstonelaw40_awake.mono _
      | exact wealth_Path.mono _ _ _ _
      | exact LeO.none _
      | refine LeO.ite ?_ ?_
      | refine LeO.bind ?_ (fun _ => ?_)
    · intro y0 y1 y2 y3 y4 y5 y6
      unfold flagstonelaw40_WealthMonotone.j3
      repeat' first
      | (with_reducible exact ih0 _ _ _)
      | (with_reducible exact ih1 _ _ _ _ _ _)
      | (with_reducible exact ih2 _ _ _ _ _ _)
      | (with_reducible exact ih3 _ _ _ _ _ _ _)
      | (with_reducible exact flagstonedata_Scores.mono _ _)
      | (with_reducible exact flagstonelaw40_awake.mono _)
      | (with_reducible exact wealth_Path.mono _ _ _ _)
      | (with_reducible exact LeO.refl _)
      | (with_reducible exact LeO.none _)
      | (with_reducible refine LeO.ite ?_ ?_)
      | (with_reducible refine LeO.bind ?_ (fun _ => ?_))
      | exact ih0 _ _ _
      | exact ih1 _ _ _ _ _ _
      | exact ih2 _ _ _ _ _ _
      | exact ih3 _ _ _ _ _ _ _
      | exact flagstonedata_Scores.mono _ _
      | exact flagstonelaw40_awake.mono _
      | exact wealth_Path.mono _ _ _ _
      | exact LeO.none _
      | refine LeO.ite ?_ ?_
      | refine LeO.bind ?_ (fun _ => ?_)
theorem flagstonelaw40_WealthMonotone.mono : ∀ a0 a1 a2 k, LeO (flagstonelaw40_WealthMonotone.f k a0 a1 a2) (flagstonelaw40_WealthMonotone.f (k + 1) a0 a1 a2) := by
  intro a0 a1 a2 k
  obtain ⟨ih0, ih1, ih2, ih3⟩ := flagstonelaw40_WealthMonotone.mono_l k
  unfold flagstonelaw40_WealthMonotone.f
  repeat' first
      | (with_reducible exact ih0 _ _ _)
      | (with_reducible exact ih1 _ _ _ _ _ _)
      | (with_reducible exact ih2 _ _ _ _ _ _)
      | (with_reducible exact ih3 _ _ _ _ _ _ _)
      | (with_reducible exact flagstonedata_Scores.mono _ _)
      | (with_reducible exact flagstonelaw40_awake.mono _)
      | (with_reducible exact wealth_Path.mono _ _ _ _)
      | (with_reducible exact LeO.refl _)
      | (with_reducible exact LeO.none _)
      | (with_reducible refine LeO.ite ?_ ?_)
      | (with_reducible refine LeO.bind ?_ (fun _ => ?_))
      | exact ih0 _ _ _
      | exact ih1 _ _ _ _ _ _
      | exact ih2 _ _ _ _ _ _
      | exact ih3 _ _ _ _ _ _ _
      | exact flagstonedata_Scores.mono _ _
      | exact flagstonelaw40_awake.mono _
      | exact wealth_Path.mono _ _ _ _
      | exact LeO.none _
      | refine LeO.ite ?_ ?_
      | refine LeO.bind ?_ (fun _ => ?_)
set_option maxHeartbeats 8000000 in
set_option maxRecDepth 100000 in
theorem flagstonelaw40_WealthMonotone.calls (k : Nat) (A0 : Option Addr) (c0 : Nat) (l0 : List Int) (a1 : Int) (a2 : Int) (r : Bool) (w : World) (hr0 : Kd.C (Kd.int .u8) w A0 l0.length l0) (hc0 : l0.length ≤ c0) (h : flagstonelaw40_WealthMonotone.f k l0 a1 a2 = some r) :
    Calls Try.prog 8 #[.slice A0 l0.length c0, .int .i16 a1, .int .i16 a2] w fun e w' => e = .returned (.bool r) ∧ Below w.heap.size w w' := by
  have HR0 := Aside0.mk hr0
  have HC0 := Aside0.mk hc0
  clear hr0 hc0
  have HB := Aside0.mk (Below.refl w.heap.size w)
  have H : ((flagstonelaw40_awake.f k).bind fun t251 => (if t251 = true then (if (l0.length : Int) > 100 then (some true) else ((flagstonedata_Scores.f k l0).bind fun t252 => (if (Int.tmod (wrap64 (mn a1 a2)) 1001) > (Int.tmod (wrap64 (mx a1 a2)) 1001) then (flagstonelaw40_WealthMonotone.j0 k t252 (Int.tmod (wrap64 (mx a1 a2)) 1001) (Int.tmod (wrap64 (mn a1 a2)) 1001)) else (flagstonelaw40_WealthMonotone.j0 k t252 (Int.tmod (wrap64 (mn a1 a2)) 1001) (Int.tmod (wrap64 (mx a1 a2)) 1001))))) else (some false))) = some r := h
  clear h
  replace H := Option.bind_eq_some_iff.mp H
  obtain ⟨t251, A40, H⟩ := H
  replace H : (if t251 = true then (if (l0.length : Int) > 100 then (some true) else ((flagstonedata_Scores.f k l0).bind fun t252 => (if (Int.tmod (wrap64 (mn a1 a2)) 1001) > (Int.tmod (wrap64 (mx a1 a2)) 1001) then (flagstonelaw40_WealthMonotone.j0 k t252 (Int.tmod (wrap64 (mx a1 a2)) 1001) (Int.tmod (wrap64 (mn a1 a2)) 1001)) else (flagstonelaw40_WealthMonotone.j0 k t252 (Int.tmod (wrap64 (mn a1 a2)) 1001) (Int.tmod (wrap64 (mx a1 a2)) 1001))))) else (some false)) = some r := H
  have A4 := Aside0.mk A40
  clear A40
  by_cases c5 : t251 = true
  · subst c5
    have H1 : (if (l0.length : Int) > 100 then (some true) else ((flagstonedata_Scores.f k l0).bind fun t252 => (if (Int.tmod (wrap64 (mn a1 a2)) 1001) > (Int.tmod (wrap64 (mx a1 a2)) 1001) then (flagstonelaw40_WealthMonotone.j0 k t252 (Int.tmod (wrap64 (mx a1 a2)) 1001) (Int.tmod (wrap64 (mn a1 a2)) 1001)) else (flagstonelaw40_WealthMonotone.j0 k t252 (Int.tmod (wrap64 (mn a1 a2)) 1001) (Int.tmod (wrap64 (mx a1 a2)) 1001))))) = some r := by rw [if_pos rfl] at H; exact H
    clear H
    have H := H1
    clear H1
    by_cases c6 : (l0.length : Int) > 100
    · rw [if_pos c6] at H
      have c6b0 : decide (100 < (l0.length : Int)) = true := decide_eq_true c6
      have c6b1 : decide (100 < l0.length) = true := decide_eq_true (by omega)
      clear c6
      obtain rfl := Option.some.inj H
      go_enter Try.func8, Try.ntmps8
      go_wp2_with (first | (go_at_call 10; (with_reducible refine (flagstonelaw40_awake.calls k  true _ A4.out).mono ?_); rintro e w7 ⟨rfl, hb⟩; have n0_ := Aside0.mk (below_step (by repeat (first | (with_reducible first | exact HB.out | apply below_alloc | apply pw_below_drewN | apply below_drew1) | exact HB.out)) hb); clear HB; have HB := n0_; clear n0_; (try clear hb); (try clear hb2); (try clear hk); (try clear hi)))
      repeat (go_quiet (first | (go_at_call 10; (with_reducible refine (flagstonelaw40_awake.calls k  true _ A4.out).mono ?_); rintro e w7 ⟨rfl, hb⟩; have n0_ := Aside0.mk (below_step (by repeat (first | (with_reducible first | exact HB.out | apply below_alloc | apply pw_below_drewN | apply below_drew1) | exact HB.out)) hb); clear HB; have HB := n0_; clear n0_; (try clear hb); (try clear hb2); (try clear hk); (try clear hi))); try go_wp2_with (first | (go_at_call 10; (with_reducible refine (flagstonelaw40_awake.calls k  true _ A4.out).mono ?_); rintro e w7 ⟨rfl, hb⟩; have n0_ := Aside0.mk (below_step (by repeat (first | (with_reducible first | exact HB.out | apply below_alloc | apply pw_below_drewN | apply below_drew1) | exact HB.out)) hb); clear HB; have HB := n0_; clear n0_; (try clear hb); (try clear hb2); (try clear hk); (try clear hi))))
      go_ret
      exact ⟨by first | rfl | (simp [errW_none, errW_some] <;> rfl) | (simp [*, errW_none, errW_some] <;> rfl), by repeat (first | (with_reducible first | exact HB.out | apply below_alloc | apply pw_below_drewN | apply below_drew1) | exact HB.out)⟩
    · rw [if_neg c6] at H
      have c6b0 : decide (100 < (l0.length : Int)) = false := decide_eq_false c6
      have c6b1 : decide (100 < l0.length) = false := decide_eq_false (by omega)
      clear c6
      replace H := Option.bind_eq_some_iff.mp H
      obtain ⟨t252, A80, H⟩ := H
      replace H : (if (Int.tmod (wrap64 (mn a1 a2)) 1001) > (Int.tmod (wrap64 (mx a1 a2)) 1001) then (flagstonelaw40_WealthMonotone.j0 k t252 (Int.tmod (wrap64 (mx a1 a2)) 1001) (Int.tmod (wrap64 (mn a1 a2)) 1001)) else (flagstonelaw40_WealthMonotone.j0 k t252 (Int.tmod (wrap64 (mn a1 a2)) 1001) (Int.tmod (wrap64 (mx a1 a2)) 1001))) = some r := H
      have A8 := Aside0.mk A80
      clear A80
      obtain ⟨ji9, hji9⟩ : ∃ j_ : Int, (mn a1 a2) = j_ := ⟨_, rfl⟩
      replace H : (if (Int.tmod (wrap64 (ji9)) 1001) > (Int.tmod (wrap64 (mx a1 a2)) 1001) then (flagstonelaw40_WealthMonotone.j0 k t252 (Int.tmod (wrap64 (mx a1 a2)) 1001) (Int.tmod (wrap64 (ji9)) 1001)) else (flagstonelaw40_WealthMonotone.j0 k t252 (Int.tmod (wrap64 (ji9)) 1001) (Int.tmod (wrap64 (mx a1 a2)) 1001))) = some r := by first | (rw [hji9] at H; exact H) | (simp only [hji9] at H ⊢; exact H)
      (try rw [hji9] at A4)
      (try rw [hji9] at A8)
      have hji9_ : (if a2 < a1 then a2 else a1) = ji9 := hji9
      obtain ⟨ji10, hji10⟩ : ∃ j_ : Int, (mx a1 a2) = j_ := ⟨_, rfl⟩
      replace H : (if (Int.tmod (wrap64 (ji9)) 1001) > (Int.tmod (wrap64 (ji10)) 1001) then (flagstonelaw40_WealthMonotone.j0 k t252 (Int.tmod (wrap64 (ji10)) 1001) (Int.tmod (wrap64 (ji9)) 1001)) else (flagstonelaw40_WealthMonotone.j0 k t252 (Int.tmod (wrap64 (ji9)) 1001) (Int.tmod (wrap64 (ji10)) 1001))) = some r := by first | (rw [hji10] at H; exact H) | (simp only [hji10] at H ⊢; exact H)
      (try rw [hji10] at A4)
      (try rw [hji10] at A8)
      have hji10_ : (if a1 < a2 then a2 else a1) = ji10 := hji10
      have HC11 := Aside0.mk H
      clear H
      go_enter Try.func8, Try.ntmps8
      go_upto_if 34 with (first | (go_at_call 10; (with_reducible refine (flagstonelaw40_awake.calls k  true _ A4.out).mono ?_); rintro e w12 ⟨rfl, hb⟩; have n0_ := Aside0.mk (below_step (by repeat (first | (with_reducible first | exact HB.out | apply below_alloc | apply pw_below_drewN | apply below_drew1) | exact HB.out)) hb); clear HB; have HB := n0_; clear n0_; (try clear hb); (try clear hb2); (try clear hk); (try clear hi)) | (go_at_call 15; (with_reducible refine (flagstonedata_Scores.calls k _ _ l0 t252 _ ?side1 ?side2 A8.out).mono ?_); (case side1 => repeat (first | exact (Kd.C_below HR0.out HB.out) | (with_reducible refine Kd.C_alloc ?_ _) | (with_reducible refine Kd.C_drewN ?_ _) | (with_reducible refine Kd.C_drew ?_))); (case side2 => exact HC0.out); rintro e w13 ⟨v253, rfl, ho0, hb⟩; have n0_ := Aside0.mk (Kd.R_lower ho0 (below_size (by repeat (first | (with_reducible first | exact HB.out | apply below_alloc | apply pw_below_drewN | apply below_drew1) | exact HB.out)))); have n1_ := Aside0.mk (below_step (by repeat (first | (with_reducible first | exact HB.out | apply below_alloc | apply pw_below_drewN | apply below_drew1) | exact HB.out)) hb); clear HB; have HO254 := n0_; have HB := n1_; clear n0_ n1_; (try clear hb); (try clear hb2); (try clear hk); (try clear hi); (try clear ho0)))
      repeat (go_quiet (first | (go_at_call 10; (with_reducible refine (flagstonelaw40_awake.calls k  true _ A4.out).mono ?_); rintro e w12 ⟨rfl, hb⟩; have n0_ := Aside0.mk (below_step (by repeat (first | (with_reducible first | exact HB.out | apply below_alloc | apply pw_below_drewN | apply below_drew1) | exact HB.out)) hb); clear HB; have HB := n0_; clear n0_; (try clear hb); (try clear hb2); (try clear hk); (try clear hi)) | (go_at_call 15; (with_reducible refine (flagstonedata_Scores.calls k _ _ l0 t252 _ ?side1 ?side2 A8.out).mono ?_); (case side1 => repeat (first | exact (Kd.C_below HR0.out HB.out) | (with_reducible refine Kd.C_alloc ?_ _) | (with_reducible refine Kd.C_drewN ?_ _) | (with_reducible refine Kd.C_drew ?_))); (case side2 => exact HC0.out); rintro e w13 ⟨v253, rfl, ho0, hb⟩; have n0_ := Aside0.mk (Kd.R_lower ho0 (below_size (by repeat (first | (with_reducible first | exact HB.out | apply below_alloc | apply pw_below_drewN | apply below_drew1) | exact HB.out)))); have n1_ := Aside0.mk (below_step (by repeat (first | (with_reducible first | exact HB.out | apply below_alloc | apply pw_below_drewN | apply below_drew1) | exact HB.out)) hb); clear HB; have HO254 := n0_; have HB := n1_; clear n0_ n1_; (try clear hb); (try clear hb2); (try clear hk); (try clear hi); (try clear ho0))); go_upto_if 34 with (first | (go_at_call 10; (with_reducible refine (flagstonelaw40_awake.calls k  true _ A4.out).mono ?_); rintro e w12 ⟨rfl, hb⟩; have n0_ := Aside0.mk (below_step (by repeat (first | (with_reducible first | exact HB.out | apply below_alloc | apply pw_below_drewN | apply below_drew1) | exact HB.out)) hb); clear HB; have HB := n0_; clear n0_; (try clear hb); (try clear hb2); (try clear hk); (try clear hi)) | (go_at_call 15; (with_reducible refine (flagstonedata_Scores.calls k _ _ l0 t252 _ ?side1 ?side2 A8.out).mono ?_); (case side1 => repeat (first | exact (Kd.C_below HR0.out HB.out) | (with_reducible refine Kd.C_alloc ?_ _) | (with_reducible refine Kd.C_drewN ?_ _) | (with_reducible refine Kd.C_drew ?_))); (case side2 => exact HC0.out); rintro e w13 ⟨v253, rfl, ho0, hb⟩; have n0_ := Aside0.mk (Kd.R_lower ho0 (below_size (by repeat (first | (with_reducible first | exact HB.out | apply below_alloc | apply pw_below_drewN | apply below_drew1) | exact HB.out)))); have n1_ := Aside0.mk (below_step (by repeat (first | (with_reducible first | exact HB.out | apply below_alloc | apply pw_below_drewN | apply below_drew1) | exact HB.out)) hb); clear HB; have HO254 := n0_; have HB := n1_; clear n0_ n1_; (try clear hb); (try clear hb2); (try clear hk); (try clear hi); (try clear ho0))))
      (try simp only [Act.put, List.setIfInBounds_toArray, List.set_cons_zero, List.set_cons_succ])
      go_cut [8, 9] (fun v8 v9 wc => ∃ (kq : Nat) (x8_10 : Int) (x9_10 : Int), v8 = .int .i64 x8_10 ∧ v9 = .int .i64 x9_10 ∧ Aside0 (flagstonelaw40_WealthMonotone.j0 kq t252 x8_10 x9_10 = some r) ∧ Aside0 (kq ≤ k) ∧ Aside0 (Kd.R k28 28 wc w.heap.size (fun _ => True) v253 t252) ∧ Aside0 (Below w.heap.size w wc))
      case first =>
        have H := HC11.out
        clear HC11
        by_cases c14 : (Int.tmod (wrap64 (ji9)) 1001) > (Int.tmod (wrap64 (ji10)) 1001)
        · rw [if_pos c14] at H
          have c14b0 : decide ((Int.tmod (wrap64 (ji10)) 1001) < (Int.tmod (wrap64 (ji9)) 1001)) = true := decide_eq_true c14
          clear c14
          (first | rw [c14b0] | (simp only [i64_w, i32_w]; rw [c14b0]) | skip)
          have H' := Aside0.mk H
          clear H
          go_wp2
          repeat (go_quiet (fail); try go_wp2)
          go_meet
          case rel => exact ⟨_, (Int.tmod (wrap64 (ji10)) 1001), (Int.tmod (wrap64 (ji9)) 1001), (by first | rfl | (simp; done) | (simp only [← hji10] <;> (first | rfl | simp)) | (simp [*]; done) | exact congrArg (Value.int _) (by unfold wrap64; omega)), (by first | rfl | (simp; done) | (simp only [← hji9] <;> (first | rfl | simp)) | (simp [*]; done) | exact congrArg (Value.int _) (by unfold wrap64; omega)), H', ⟨by first | omega | exact Nat.le_refl _⟩, ⟨by (with_reducible repeat (first | apply Kd.R_alloc | apply Kd.R_drewN | apply Kd.R_drew)); exact HO254.out⟩, ⟨by repeat (first | (with_reducible first | exact HB.out | apply below_alloc | apply pw_below_drewN | apply below_drew1) | exact HB.out)⟩⟩
        · rw [if_neg c14] at H
          have c14b0 : decide ((Int.tmod (wrap64 (ji10)) 1001) < (Int.tmod (wrap64 (ji9)) 1001)) = false := decide_eq_false c14
          clear c14
          (first | rw [c14b0] | (simp only [i64_w, i32_w]; rw [c14b0]) | skip)
          have H' := Aside0.mk H
          clear H
          go_wp2
          repeat (go_quiet (fail); try go_wp2)
          go_meet
          case rel => exact ⟨_, (Int.tmod (wrap64 (ji9)) 1001), (Int.tmod (wrap64 (ji10)) 1001), (by first | rfl | (simp; done) | (simp only [← hji9] <;> (first | rfl | simp)) | (simp [*]; done) | exact congrArg (Value.int _) (by unfold wrap64; omega)), (by first | rfl | (simp; done) | (simp only [← hji10] <;> (first | rfl | simp)) | (simp [*]; done) | exact congrArg (Value.int _) (by unfold wrap64; omega)), H', ⟨by first | omega | exact Nat.le_refl _⟩, ⟨by (with_reducible repeat (first | apply Kd.R_alloc | apply Kd.R_drewN | apply Kd.R_drew)); exact HO254.out⟩, ⟨by repeat (first | (with_reducible first | exact HB.out | apply below_alloc | apply pw_below_drewN | apply below_drew1) | exact HB.out)⟩⟩
      case rest =>
        clear HC11
        try clear c1
        try clear p2
        try clear c5
        try clear c6
        try clear c6b0
        try clear c6b1
        try clear p6
        try clear c8
        try clear c14
        try clear c14b0
        obtain ⟨kq, x8_10, x9_10, rfl, rfl, HA, HJ10, HO_7, HB⟩ := hcut
        cases kq with
        | zero => exact absurd HA.out (by simp [flagstonelaw40_WealthMonotone.j0])
        | succ kj10 =>
          have H := HA.out
          clear HA
          simp only [flagstonelaw40_WealthMonotone.j0] at H
          replace H := Option.bind_eq_some_iff.mp H
          obtain ⟨t255, A150, H⟩ := H
          replace H : ((wealth_Path.f kj10 t252 x9_10 true).bind fun t258 => ((wealth_Path.f kj10 t252 x8_10 false).bind fun t261 => ((wealth_Path.f kj10 t252 x9_10 false).bind fun t264 => (if (t255.length : Int) = (t252.length : Int) then (if (t258.length : Int) = (t252.length : Int) then (if (t261.length : Int) = (t252.length : Int) then (flagstonelaw40_WealthMonotone.j1 kj10 t252 t255 t258 t261 t264 ((t264.length : Int) != (t252.length : Int))) else (flagstonelaw40_WealthMonotone.j1 kj10 t252 t255 t258 t261 t264 true)) else (flagstonelaw40_WealthMonotone.j1 kj10 t252 t255 t258 t261 t264 true)) else (flagstonelaw40_WealthMonotone.j1 kj10 t252 t255 t258 t261 t264 true))))) = some r := H
          have A15 := Aside0.mk A150
          clear A150
          replace H := Option.bind_eq_some_iff.mp H
          obtain ⟨t258, A160, H⟩ := H
          replace H : ((wealth_Path.f kj10 t252 x8_10 false).bind fun t261 => ((wealth_Path.f kj10 t252 x9_10 false).bind fun t264 => (if (t255.length : Int) = (t252.length : Int) then (if (t258.length : Int) = (t252.length : Int) then (if (t261.length : Int) = (t252.length : Int) then (flagstonelaw40_WealthMonotone.j1 kj10 t252 t255 t258 t261 t264 ((t264.length : Int) != (t252.length : Int))) else (flagstonelaw40_WealthMonotone.j1 kj10 t252 t255 t258 t261 t264 true)) else (flagstonelaw40_WealthMonotone.j1 kj10 t252 t255 t258 t261 t264 true)) else (flagstonelaw40_WealthMonotone.j1 kj10 t252 t255 t258 t261 t264 true)))) = some r := H
          have A16 := Aside0.mk A160
          clear A160
          replace H := Option.bind_eq_some_iff.mp H
          obtain ⟨t261, A170, H⟩ := H
          replace H : ((wealth_Path.f kj10 t252 x9_10 false).bind fun t264 => (if (t255.length : Int) = (t252.length : Int) then (if (t258.length : Int) = (t252.length : Int) then (if (t261.length : Int) = (t252.length : Int) then (flagstonelaw40_WealthMonotone.j1 kj10 t252 t255 t258 t261 t264 ((t264.length : Int) != (t252.length : Int))) else (flagstonelaw40_WealthMonotone.j1 kj10 t252 t255 t258 t261 t264 true)) else (flagstonelaw40_WealthMonotone.j1 kj10 t252 t255 t258 t261 t264 true)) else (flagstonelaw40_WealthMonotone.j1 kj10 t252 t255 t258 t261 t264 true))) = some r := H
          have A17 := Aside0.mk A170
          clear A170
          replace H := Option.bind_eq_some_iff.mp H
          obtain ⟨t264, A180, H⟩ := H
          replace H : (if (t255.length : Int) = (t252.length : Int) then (if (t258.length : Int) = (t252.length : Int) then (if (t261.length : Int) = (t252.length : Int) then (flagstonelaw40_WealthMonotone.j1 kj10 t252 t255 t258 t261 t264 ((t264.length : Int) != (t252.length : Int))) else (flagstonelaw40_WealthMonotone.j1 kj10 t252 t255 t258 t261 t264 true)) else (flagstonelaw40_WealthMonotone.j1 kj10 t252 t255 t258 t261 t264 true)) else (flagstonelaw40_WealthMonotone.j1 kj10 t252 t255 t258 t261 t264 true)) = some r := H
          have A18 := Aside0.mk A180
          clear A180
          have HC19 := Aside0.mk H
          clear H
          obtain ⟨Ao20, co20, eo20⟩ := Kd.R_slice HO_7.out
          subst eo20
          go_upto_region 11 with (first | (go_at_call 22; (with_reducible refine (wealth_Path.calls kj10 _ _ t252 x8_10 true t255 _ ?side1 ?side2 A15.out).mono ?_); (case side1 => repeat (first | exact (Kd.R_reads' HO_7.out).2.2 | (with_reducible refine Kd.C_alloc ?_ _) | (with_reducible refine Kd.C_drewN ?_ _) | (with_reducible refine Kd.C_drew ?_))); (case side2 => exact (Kd.R_reads' HO_7.out).2.1); rintro e w21 ⟨v256, rfl, ho0, hb⟩; have n0_ := Aside0.mk (Kd.R_below (by (with_reducible repeat (first | apply Kd.R_alloc | apply Kd.R_drewN | apply Kd.R_drew)); exact HO_7.out) hb); have n1_ := Aside0.mk (Kd.R_lower ho0 (below_size (by repeat (first | (with_reducible first | exact HB.out | apply below_alloc | apply pw_below_drewN | apply below_drew1) | exact HB.out)))); have n2_ := Aside0.mk (below_step (by repeat (first | (with_reducible first | exact HB.out | apply below_alloc | apply pw_below_drewN | apply below_drew1) | exact HB.out)) hb); clear HO_7; clear HB; have HO_7 := n0_; have HO257 := n1_; have HB := n2_; clear n0_ n1_ n2_; (try clear hb); (try clear hb2); (try clear hk); (try clear hi); (try clear ho0)) | (go_at_call 22; (with_reducible refine (wealth_Path.calls kj10 _ _ t252 x9_10 true t258 _ ?side1 ?side2 A16.out).mono ?_); (case side1 => repeat (first | exact (Kd.R_reads' HO_7.out).2.2 | (with_reducible refine Kd.C_alloc ?_ _) | (with_reducible refine Kd.C_drewN ?_ _) | (with_reducible refine Kd.C_drew ?_))); (case side2 => exact (Kd.R_reads' HO_7.out).2.1); rintro e w22 ⟨v259, rfl, ho0, hb⟩; have n0_ := Aside0.mk (Kd.R_below (by (with_reducible repeat (first | apply Kd.R_alloc | apply Kd.R_drewN | apply Kd.R_drew)); exact HO_7.out) hb); have n1_ := Aside0.mk (Kd.R_elder' (by (with_reducible repeat (first | apply Kd.R_alloc | apply Kd.R_drewN | apply Kd.R_drew)); exact HO257.out) (Kd.R_base ho0) hb); have n2_ := Aside0.mk (Kd.R_lower (Kd.R_new' ho0 (Kd.R_lt (by (with_reducible repeat (first | apply Kd.R_alloc | apply Kd.R_drewN | apply Kd.R_drew)); exact HO257.out))) (below_size (by repeat (first | (with_reducible first | exact HB.out | apply below_alloc | apply pw_below_drewN | apply below_drew1) | exact HB.out)))); have n3_ := Aside0.mk (below_step (by repeat (first | (with_reducible first | exact HB.out | apply below_alloc | apply pw_below_drewN | apply below_drew1) | exact HB.out)) hb); clear HO_7; clear HO257; clear HB; have HO_7 := n0_; have HO257 := n1_; have HO260 := n2_; have HB := n3_; clear n0_ n1_ n2_ n3_; (try clear hb); (try clear hb2); (try clear hk); (try clear hi); (try clear ho0)) | (go_at_call 22; (with_reducible refine (wealth_Path.calls kj10 _ _ t252 x8_10 false t261 _ ?side1 ?side2 A17.out).mono ?_); (case side1 => repeat (first | exact (Kd.R_reads' HO_7.out).2.2 | (with_reducible refine Kd.C_alloc ?_ _) | (with_reducible refine Kd.C_drewN ?_ _) | (with_reducible refine Kd.C_drew ?_))); (case side2 => exact (Kd.R_reads' HO_7.out).2.1); rintro e w23 ⟨v262, rfl, ho0, hb⟩; have n0_ := Aside0.mk (Kd.R_below (by (with_reducible repeat (first | apply Kd.R_alloc | apply Kd.R_drewN | apply Kd.R_drew)); exact HO_7.out) hb); have n1_ := Aside0.mk (Kd.R_elder' (by (with_reducible repeat (first | apply Kd.R_alloc | apply Kd.R_drewN | apply Kd.R_drew)); exact HO257.out) (Kd.R_base ho0) hb); have n2_ := Aside0.mk (Kd.R_elder' (by (with_reducible repeat (first | apply Kd.R_alloc | apply Kd.R_drewN | apply Kd.R_drew)); exact HO260.out) (Kd.R_base ho0) hb); have n3_ := Aside0.mk (Kd.R_lower (Kd.R_new' (Kd.R_new' ho0 (Kd.R_lt (by (with_reducible repeat (first | apply Kd.R_alloc | apply Kd.R_drewN | apply Kd.R_drew)); exact HO257.out))) (Kd.R_lt (by (with_reducible repeat (first | apply Kd.R_alloc | apply Kd.R_drewN | apply Kd.R_drew)); exact HO260.out))) (below_size (by repeat (first | (with_reducible first | exact HB.out | apply below_alloc | apply pw_below_drewN | apply below_drew1) | exact HB.out)))); have n4_ := Aside0.mk (below_step (by repeat (first | (with_reducible first | exact HB.out | apply below_alloc | apply pw_below_drewN | apply below_drew1) | exact HB.out)) hb); clear HO_7; clear HO257; clear HO260; clear HB; have HO_7 := n0_; have HO257 := n1_; have HO260 := n2_; have HO263 := n3_; have HB := n4_; clear n0_ n1_ n2_ n3_ n4_; (try clear hb); (try clear hb2); (try clear hk); (try clear hi); (try clear ho0)) | (go_at_call 22; (with_reducible refine (wealth_Path.calls kj10 _ _ t252 x9_10 false t264 _ ?side1 ?side2 A18.out).mono ?_); (case side1 => repeat (first | exact (Kd.R_reads' HO_7.out).2.2 | (with_reducible refine Kd.C_alloc ?_ _) | (with_reducible refine Kd.C_drewN ?_ _) | (with_reducible refine Kd.C_drew ?_))); (case side2 => exact (Kd.R_reads' HO_7.out).2.1); rintro e w24 ⟨v265, rfl, ho0, hb⟩; have n0_ := Aside0.mk (Kd.R_below (by (with_reducible repeat (first | apply Kd.R_alloc | apply Kd.R_drewN | apply Kd.R_drew)); exact HO_7.out) hb); have n1_ := Aside0.mk (Kd.R_elder' (by (with_reducible repeat (first | apply Kd.R_alloc | apply Kd.R_drewN | apply Kd.R_drew)); exact HO257.out) (Kd.R_base ho0) hb); have n2_ := Aside0.mk (Kd.R_elder' (by (with_reducible repeat (first | apply Kd.R_alloc | apply Kd.R_drewN | apply Kd.R_drew)); exact HO260.out) (Kd.R_base ho0) hb); have n3_ := Aside0.mk (Kd.R_elder' (by (with_reducible repeat (first | apply Kd.R_alloc | apply Kd.R_drewN | apply Kd.R_drew)); exact HO263.out) (Kd.R_base ho0) hb); have n4_ := Aside0.mk (Kd.R_lower (Kd.R_new' (Kd.R_new' (Kd.R_new' ho0 (Kd.R_lt (by (with_reducible repeat (first | apply Kd.R_alloc | apply Kd.R_drewN | apply Kd.R_drew)); exact HO257.out))) (Kd.R_lt (by (with_reducible repeat (first | apply Kd.R_alloc | apply Kd.R_drewN | apply Kd.R_drew)); exact HO260.out))) (Kd.R_lt (by (with_reducible repeat (first | apply Kd.R_alloc | apply Kd.R_drewN | apply Kd.R_drew)); exact HO263.out))) (below_size (by repeat (first | (with_reducible first | exact HB.out | apply below_alloc | apply pw_below_drewN | apply below_drew1) | exact HB.out)))); have n5_ := Aside0.mk (below_step (by repeat (first | (with_reducible first | exact HB.out | apply below_alloc | apply pw_below_drewN | apply below_drew1) | exact HB.out)) hb); clear HO_7; clear HO257; clear HO260; clear HO263; clear HB; have HO_7 := n0_; have HO257 := n1_; have HO260 := n2_; have HO263 := n3_; have HO266 := n4_; have HB := n5_; clear n0_ n1_ n2_ n3_ n4_ n5_; (try clear hb); (try clear hb2); (try clear hk); (try clear hi); (try clear ho0)))
          repeat (go_quiet (first | (go_at_call 22; (with_reducible refine (wealth_Path.calls kj10 _ _ t252 x8_10 true t255 _ ?side1 ?side2 A15.out).mono ?_); (case side1 => repeat (first | exact (Kd.R_reads' HO_7.out).2.2 | (with_reducible refine Kd.C_alloc ?_ _) | (with_reducible refine Kd.C_drewN ?_ _) | (with_reducible refine Kd.C_drew ?_))); (case side2 => exact (Kd.R_reads' HO_7.out).2.1); rintro e w21 ⟨v256, rfl, ho0, hb⟩; have n0_ := Aside0.mk (Kd.R_below (by (with_reducible repeat (first | apply Kd.R_alloc | apply Kd.R_drewN | apply Kd.R_drew)); exact HO_7.out) hb); have n1_ := Aside0.mk (Kd.R_lower ho0 (below_size (by repeat (first | (with_reducible first | exact HB.out | apply below_alloc | apply pw_below_drewN | apply below_drew1) | exact HB.out)))); have n2_ := Aside0.mk (below_step (by repeat (first | (with_reducible first | exact HB.out | apply below_alloc | apply pw_below_drewN | apply below_drew1) | exact HB.out)) hb); clear HO_7; clear HB; have HO_7 := n0_; have HO257 := n1_; have HB := n2_; clear n0_ n1_ n2_; (try clear hb); (try clear hb2); (try clear hk); (try clear hi); (try clear ho0)) | (go_at_call 22; (with_reducible refine (wealth_Path.calls kj10 _ _ t252 x9_10 true t258 _ ?side1 ?side2 A16.out).mono ?_); (case side1 => repeat (first | exact (Kd.R_reads' HO_7.out).2.2 | (with_reducible refine Kd.C_alloc ?_ _) | (with_reducible refine Kd.C_drewN ?_ _) | (with_reducible refine Kd.C_drew ?_))); (case side2 => exact (Kd.R_reads' HO_7.out).2.1); rintro e w22 ⟨v259, rfl, ho0, hb⟩; have n0_ := Aside0.mk (Kd.R_below (by (with_reducible repeat (first | apply Kd.R_alloc | apply Kd.R_drewN | apply Kd.R_drew)); exact HO_7.out) hb); have n1_ := Aside0.mk (Kd.R_elder' (by (with_reducible repeat (first | apply Kd.R_alloc | apply Kd.R_drewN | apply Kd.R_drew)); exact HO257.out) (Kd.R_base ho0) hb); have n2_ := Aside0.mk (Kd.R_lower (Kd.R_new' ho0 (Kd.R_lt (by (with_reducible repeat (first | apply Kd.R_alloc | apply Kd.R_drewN | apply Kd.R_drew)); exact HO257.out))) (below_size (by repeat (first | (with_reducible first | exact HB.out | apply below_alloc | apply pw_below_drewN | apply below_drew1) | exact HB.out)))); have n3_ := Aside0.mk (below_step (by repeat (first | (with_reducible first | exact HB.out | apply below_alloc | apply pw_below_drewN | apply below_drew1) | exact HB.out)) hb); clear HO_7; clear HO257; clear HB; have HO_7 := n0_; have HO257 := n1_; have HO260 := n2_; have HB := n3_; clear n0_ n1_ n2_ n3_; (try clear hb); (try clear hb2); (try clear hk); (try clear hi); (try clear ho0)) | (go_at_call 22; (with_reducible refine (wealth_Path.calls kj10 _ _ t252 x8_10 false t261 _ ?side1 ?side2 A17.out).mono ?_); (case side1 => repeat (first | exact (Kd.R_reads' HO_7.out).2.2 | (with_reducible refine Kd.C_alloc ?_ _) | (with_reducible refine Kd.C_drewN ?_ _) | (with_reducible refine Kd.C_drew ?_))); (case side2 => exact (Kd.R_reads' HO_7.out).2.1); rintro e w23 ⟨v262, rfl, ho0, hb⟩; have n0_ := Aside0.mk (Kd.R_below (by (with_reducible repeat (first | apply Kd.R_alloc | apply Kd.R_drewN | apply Kd.R_drew)); exact HO_7.out) hb); have n1_ := Aside0.mk (Kd.R_elder' (by (with_reducible repeat (first | apply Kd.R_alloc | apply Kd.R_drewN | apply Kd.R_drew)); exact HO257.out) (Kd.R_base ho0) hb); have n2_ := Aside0.mk (Kd.R_elder' (by (with_reducible repeat (first | apply Kd.R_alloc | apply Kd.R_drewN | apply Kd.R_drew)); exact HO260.out) (Kd.R_base ho0) hb); have n3_ := Aside0.mk (Kd.R_lower (Kd.R_new' (Kd.R_new' ho0 (Kd.R_lt (by (with_reducible repeat (first | apply Kd.R_alloc | apply Kd.R_drewN | apply Kd.R_drew)); exact HO257.out))) (Kd.R_lt (by (with_reducible repeat (first | apply Kd.R_alloc | apply Kd.R_drewN | apply Kd.R_drew)); exact HO260.out))) (below_size (by repeat (first | (with_reducible first | exact HB.out | apply below_alloc | apply pw_below_drewN | apply below_drew1) | exact HB.out)))); have n4_ := Aside0.mk (below_step (by repeat (first | (with_reducible first | exact HB.out | apply below_alloc | apply pw_below_drewN | apply below_drew1) | exact HB.out)) hb); clear HO_7; clear HO257; clear HO260; clear HB; have HO_7 := n0_; have HO257 := n1_; have HO260 := n2_; have HO263 := n3_; have HB := n4_; clear n0_ n1_ n2_ n3_ n4_; (try clear hb); (try clear hb2); (try clear hk); (try clear hi); (try clear ho0)) | (go_at_call 22; (with_reducible refine (wealth_Path.calls kj10 _ _ t252 x9_10 false t264 _ ?side1 ?side2 A18.out).mono ?_); (case side1 => repeat (first | exact (Kd.R_reads' HO_7.out).2.2 | (with_reducible refine Kd.C_alloc ?_ _) | (with_reducible refine Kd.C_drewN ?_ _) | (with_reducible refine Kd.C_drew ?_))); (case side2 => exact (Kd.R_reads' HO_7.out).2.1); rintro e w24 ⟨v265, rfl, ho0, hb⟩; have n0_ := Aside0.mk (Kd.R_below (by (with_reducible repeat (first | apply Kd.R_alloc | apply Kd.R_drewN | apply Kd.R_drew)); exact HO_7.out) hb); have n1_ := Aside0.mk (Kd.R_elder' (by (with_reducible repeat (first | apply Kd.R_alloc | apply Kd.R_drewN | apply Kd.R_drew)); exact HO257.out) (Kd.R_base ho0) hb); have n2_ := Aside0.mk (Kd.R_elder' (by (with_reducible repeat (first | apply Kd.R_alloc | apply Kd.R_drewN | apply Kd.R_drew)); exact HO260.out) (Kd.R_base ho0) hb); have n3_ := Aside0.mk (Kd.R_elder' (by (with_reducible repeat (first | apply Kd.R_alloc | apply Kd.R_drewN | apply Kd.R_drew)); exact HO263.out) (Kd.R_base ho0) hb); have n4_ := Aside0.mk (Kd.R_lower (Kd.R_new' (Kd.R_new' (Kd.R_new' ho0 (Kd.R_lt (by (with_reducible repeat (first | apply Kd.R_alloc | apply Kd.R_drewN | apply Kd.R_drew)); exact HO257.out))) (Kd.R_lt (by (with_reducible repeat (first | apply Kd.R_alloc | apply Kd.R_drewN | apply Kd.R_drew)); exact HO260.out))) (Kd.R_lt (by (with_reducible repeat (first | apply Kd.R_alloc | apply Kd.R_drewN | apply Kd.R_drew)); exact HO263.out))) (below_size (by repeat (first | (with_reducible first | exact HB.out | apply below_alloc | apply pw_below_drewN | apply below_drew1) | exact HB.out)))); have n5_ := Aside0.mk (below_step (by repeat (first | (with_reducible first | exact HB.out | apply below_alloc | apply pw_below_drewN | apply below_drew1) | exact HB.out)) hb); clear HO_7; clear HO257; clear HO260; clear HO263; clear HB; have HO_7 := n0_; have HO257 := n1_; have HO260 := n2_; have HO263 := n3_; have HO266 := n4_; have HB := n5_; clear n0_ n1_ n2_ n3_ n4_ n5_; (try clear hb); (try clear hb2); (try clear hk); (try clear hi); (try clear ho0))); go_upto_region 11 with (first | (go_at_call 22; (with_reducible refine (wealth_Path.calls kj10 _ _ t252 x8_10 true t255 _ ?side1 ?side2 A15.out).mono ?_); (case side1 => repeat (first | exact (Kd.R_reads' HO_7.out).2.2 | (with_reducible refine Kd.C_alloc ?_ _) | (with_reducible refine Kd.C_drewN ?_ _) | (with_reducible refine Kd.C_drew ?_))); (case side2 => exact (Kd.R_reads' HO_7.out).2.1); rintro e w21 ⟨v256, rfl, ho0, hb⟩; have n0_ := Aside0.mk (Kd.R_below (by (with_reducible repeat (first | apply Kd.R_alloc | apply Kd.R_drewN | apply Kd.R_drew)); exact HO_7.out) hb); have n1_ := Aside0.mk (Kd.R_lower ho0 (below_size (by repeat (first | (with_reducible first | exact HB.out | apply below_alloc | apply pw_below_drewN | apply below_drew1) | exact HB.out)))); have n2_ := Aside0.mk (below_step (by repeat (first | (with_reducible first | exact HB.out | apply below_alloc | apply pw_below_drewN | apply below_drew1) | exact HB.out)) hb); clear HO_7; clear HB; have HO_7 := n0_; have HO257 := n1_; have HB := n2_; clear n0_ n1_ n2_; (try clear hb); (try clear hb2); (try clear hk); (try clear hi); (try clear ho0)) | (go_at_call 22; (with_reducible refine (wealth_Path.calls kj10 _ _ t252 x9_10 true t258 _ ?side1 ?side2 A16.out).mono ?_); (case side1 => repeat (first | exact (Kd.R_reads' HO_7.out).2.2 | (with_reducible refine Kd.C_alloc ?_ _) | (with_reducible refine Kd.C_drewN ?_ _) | (with_reducible refine Kd.C_drew ?_))); (case side2 => exact (Kd.R_reads' HO_7.out).2.1); rintro e w22 ⟨v259, rfl, ho0, hb⟩; have n0_ := Aside0.mk (Kd.R_below (by (with_reducible repeat (first | apply Kd.R_alloc | apply Kd.R_drewN | apply Kd.R_drew)); exact HO_7.out) hb); have n1_ := Aside0.mk (Kd.R_elder' (by (with_reducible repeat (first | apply Kd.R_alloc | apply Kd.R_drewN | apply Kd.R_drew)); exact HO257.out) (Kd.R_base ho0) hb); have n2_ := Aside0.mk (Kd.R_lower (Kd.R_new' ho0 (Kd.R_lt (by (with_reducible repeat (first | apply Kd.R_alloc | apply Kd.R_drewN | apply Kd.R_drew)); exact HO257.out))) (below_size (by repeat (first | (with_reducible first | exact HB.out | apply below_alloc | apply pw_below_drewN | apply below_drew1) | exact HB.out)))); have n3_ := Aside0.mk (below_step (by repeat (first | (with_reducible first | exact HB.out | apply below_alloc | apply pw_below_drewN | apply below_drew1) | exact HB.out)) hb); clear HO_7; clear HO257; clear HB; have HO_7 := n0_; have HO257 := n1_; have HO260 := n2_; have HB := n3_; clear n0_ n1_ n2_ n3_; (try clear hb); (try clear hb2); (try clear hk); (try clear hi); (try clear ho0)) | (go_at_call 22; (with_reducible refine (wealth_Path.calls kj10 _ _ t252 x8_10 false t261 _ ?side1 ?side2 A17.out).mono ?_); (case side1 => repeat (first | exact (Kd.R_reads' HO_7.out).2.2 | (with_reducible refine Kd.C_alloc ?_ _) | (with_reducible refine Kd.C_drewN ?_ _) | (with_reducible refine Kd.C_drew ?_))); (case side2 => exact (Kd.R_reads' HO_7.out).2.1); rintro e w23 ⟨v262, rfl, ho0, hb⟩; have n0_ := Aside0.mk (Kd.R_below (by (with_reducible repeat (first | apply Kd.R_alloc | apply Kd.R_drewN | apply Kd.R_drew)); exact HO_7.out) hb); have n1_ := Aside0.mk (Kd.R_elder' (by (with_reducible repeat (first | apply Kd.R_alloc | apply Kd.R_drewN | apply Kd.R_drew)); exact HO257.out) (Kd.R_base ho0) hb); have n2_ := Aside0.mk (Kd.R_elder' (by (with_reducible repeat (first | apply Kd.R_alloc | apply Kd.R_drewN | apply Kd.R_drew)); exact HO260.out) (Kd.R_base ho0) hb); have n3_ := Aside0.mk (Kd.R_lower (Kd.R_new' (Kd.R_new' ho0 (Kd.R_lt (by (with_reducible repeat (first | apply Kd.R_alloc | apply Kd.R_drewN | apply Kd.R_drew)); exact HO257.out))) (Kd.R_lt (by (with_reducible repeat (first | apply Kd.R_alloc | apply Kd.R_drewN | apply Kd.R_drew)); exact HO260.out))) (below_size (by repeat (first | (with_reducible first | exact HB.out | apply below_alloc | apply pw_below_drewN | apply below_drew1) | exact HB.out)))); have n4_ := Aside0.mk (below_step (by repeat (first | (with_reducible first | exact HB.out | apply below_alloc | apply pw_below_drewN | apply below_drew1) | exact HB.out)) hb); clear HO_7; clear HO257; clear HO260; clear HB; have HO_7 := n0_; have HO257 := n1_; have HO260 := n2_; have HO263 := n3_; have HB := n4_; clear n0_ n1_ n2_ n3_ n4_; (try clear hb); (try clear hb2); (try clear hk); (try clear hi); (try clear ho0)) | (go_at_call 22; (with_reducible refine (wealth_Path.calls kj10 _ _ t252 x9_10 false t264 _ ?side1 ?side2 A18.out).mono ?_); (case side1 => repeat (first | exact (Kd.R_reads' HO_7.out).2.2 | (with_reducible refine Kd.C_alloc ?_ _) | (with_reducible refine Kd.C_drewN ?_ _) | (with_reducible refine Kd.C_drew ?_))); (case side2 => exact (Kd.R_reads' HO_7.out).2.1); rintro e w24 ⟨v265, rfl, ho0, hb⟩; have n0_ := Aside0.mk (Kd.R_below (by (with_reducible repeat (first | apply Kd.R_alloc | apply Kd.R_drewN | apply Kd.R_drew)); exact HO_7.out) hb); have n1_ := Aside0.mk (Kd.R_elder' (by (with_reducible repeat (first | apply Kd.R_alloc | apply Kd.R_drewN | apply Kd.R_drew)); exact HO257.out) (Kd.R_base ho0) hb); have n2_ := Aside0.mk (Kd.R_elder' (by (with_reducible repeat (first | apply Kd.R_alloc | apply Kd.R_drewN | apply Kd.R_drew)); exact HO260.out) (Kd.R_base ho0) hb); have n3_ := Aside0.mk (Kd.R_elder' (by (with_reducible repeat (first | apply Kd.R_alloc | apply Kd.R_drewN | apply Kd.R_drew)); exact HO263.out) (Kd.R_base ho0) hb); have n4_ := Aside0.mk (Kd.R_lower (Kd.R_new' (Kd.R_new' (Kd.R_new' ho0 (Kd.R_lt (by (with_reducible repeat (first | apply Kd.R_alloc | apply Kd.R_drewN | apply Kd.R_drew)); exact HO257.out))) (Kd.R_lt (by (with_reducible repeat (first | apply Kd.R_alloc | apply Kd.R_drewN | apply Kd.R_drew)); exact HO260.out))) (Kd.R_lt (by (with_reducible repeat (first | apply Kd.R_alloc | apply Kd.R_drewN | apply Kd.R_drew)); exact HO263.out))) (below_size (by repeat (first | (with_reducible first | exact HB.out | apply below_alloc | apply pw_below_drewN | apply below_drew1) | exact HB.out)))); have n5_ := Aside0.mk (below_step (by repeat (first | (with_reducible first | exact HB.out | apply below_alloc | apply pw_below_drewN | apply below_drew1) | exact HB.out)) hb); clear HO_7; clear HO257; clear HO260; clear HO263; clear HB; have HO_7 := n0_; have HO257 := n1_; have HO260 := n2_; have HO263 := n3_; have HO266 := n4_; have HB := n5_; clear n0_ n1_ n2_ n3_ n4_ n5_; (try clear hb); (try clear hb2); (try clear hk); (try clear hi); (try clear ho0))))
          (try simp only [Act.put, List.setIfInBounds_toArray, List.set_cons_zero, List.set_cons_succ])
          go_cut [74] (fun v74 wc => ∃ (kq : Nat) (x74_18 : Bool), v74 = .bool x74_18 ∧ Aside0 (flagstonelaw40_WealthMonotone.j1 kq t252 t255 t258 t261 t264 x74_18 = some r) ∧ Aside0 (kq ≤ kj10) ∧ Aside0 (Kd.R k28 28 wc w.heap.size (fun _ => True) (.slice Ao20 t252.length co20) t252) ∧ Aside0 (Kd.R (Kd.int .i64) 3 wc w.heap.size (fun k_ => some k_ ≠ (v259 : Value).ownBlock ∧ some k_ ≠ (v262 : Value).ownBlock ∧ some k_ ≠ (v265 : Value).ownBlock) v256 t255) ∧ Aside0 (Kd.R (Kd.int .i64) 3 wc w.heap.size (fun k_ => some k_ ≠ (v256 : Value).ownBlock ∧ some k_ ≠ (v262 : Value).ownBlock ∧ some k_ ≠ (v265 : Value).ownBlock) v259 t258) ∧ Aside0 (Kd.R (Kd.int .i64) 3 wc w.heap.size (fun k_ => some k_ ≠ (v256 : Value).ownBlock ∧ some k_ ≠ (v259 : Value).ownBlock ∧ some k_ ≠ (v265 : Value).ownBlock) v262 t261) ∧ Aside0 (Kd.R (Kd.int .i64) 3 wc w.heap.size (fun k_ => some k_ ≠ (v256 : Value).ownBlock ∧ some k_ ≠ (v259 : Value).ownBlock ∧ some k_ ≠ (v262 : Value).ownBlock) v265 t264) ∧ Aside0 (Below w.heap.size w wc))
          case first =>
            have H := HC19.out
            clear HC19
            by_cases c25 : (t255.length : Int) = (t252.length : Int)
            · rw [if_pos c25] at H
              have c25b0 : ((t255.length : Int) == (t252.length : Int)) = true := beq_iff_eq.mpr c25
              have c25b1 : ((t255.length : Int) != (t252.length : Int)) = false := bne_eq_false_iff_eq.mpr c25
              have c25b2 : (t255.length == t252.length) = true := by first | simpa using c25 | (simp at c25 ⊢; omega)
              clear c25
              (first | rw [c25b0] | (simp only [i64_w, i32_w]; rw [c25b0]) | skip)
              by_cases c26 : (t258.length : Int) = (t252.length : Int)
              · rw [if_pos c26] at H
                have c26b0 : ((t258.length : Int) == (t252.length : Int)) = true := beq_iff_eq.mpr c26
                have c26b1 : ((t258.length : Int) != (t252.length : Int)) = false := bne_eq_false_iff_eq.mpr c26
                have c26b2 : (t258.length == t252.length) = true := by first | simpa using c26 | (simp at c26 ⊢; omega)
                clear c26
                by_cases c27 : (t261.length : Int) = (t252.length : Int)
                · rw [if_pos c27] at H
                  have c27b0 : ((t261.length : Int) == (t252.length : Int)) = true := beq_iff_eq.mpr c27
                  have c27b1 : ((t261.length : Int) != (t252.length : Int)) = false := bne_eq_false_iff_eq.mpr c27
                  have c27b2 : (t261.length == t252.length) = true := by first | simpa using c27 | (simp at c27 ⊢; omega)
                  clear c27
                  have H' := Aside0.mk H
                  clear H
                  obtain ⟨Ao28, co28, eo28⟩ := Kd.R_slice HO257.out
                  subst eo28
                  obtain ⟨Ao29, co29, eo29⟩ := Kd.R_slice HO260.out
                  subst eo29
                  obtain ⟨Ao30, co30, eo30⟩ := Kd.R_slice HO263.out
                  subst eo30
                  obtain ⟨Ao31, co31, eo31⟩ := Kd.R_slice HO266.out
                  subst eo31
                  go_wp2
                  repeat (go_quiet (fail); try go_wp2)
                  go_meet
                  case rel => exact ⟨_, (((t264.length : Int) != (t252.length : Int))), (by first | rfl | (simp; done) | (simp [*]; done) | exact congrArg (Value.int _) (by unfold wrap64; omega)), H', ⟨by have := HJ10.out; first | omega | exact Nat.le_refl _⟩, ⟨by (with_reducible repeat (first | apply Kd.R_alloc | apply Kd.R_drewN | apply Kd.R_drew)); exact HO_7.out⟩, ⟨by (with_reducible repeat (first | apply Kd.R_alloc | apply Kd.R_drewN | apply Kd.R_drew)); exact Kd.R_mono HO257.out (fun _ hk => ⟨hk.1.1.2, ⟨hk.1.2, hk.2⟩⟩)⟩, ⟨by (with_reducible repeat (first | apply Kd.R_alloc | apply Kd.R_drewN | apply Kd.R_drew)); exact Kd.R_mono HO260.out (fun _ hk => ⟨hk.1.1.2, ⟨hk.1.2, hk.2⟩⟩)⟩, ⟨by (with_reducible repeat (first | apply Kd.R_alloc | apply Kd.R_drewN | apply Kd.R_drew)); exact Kd.R_mono HO263.out (fun _ hk => ⟨hk.1.1.2, ⟨hk.1.2, hk.2⟩⟩)⟩, ⟨by (with_reducible repeat (first | apply Kd.R_alloc | apply Kd.R_drewN | apply Kd.R_drew)); exact Kd.R_mono HO266.out (fun _ hk => ⟨hk.1.1.2, ⟨hk.1.2, hk.2⟩⟩)⟩, ⟨by repeat (first | (with_reducible first | exact HB.out | apply below_alloc | apply pw_below_drewN | apply below_drew1) | exact HB.out)⟩⟩
                · rw [if_neg c27] at H
                  have c27b0 : ((t261.length : Int) == (t252.length : Int)) = false := beq_eq_false_iff_ne.mpr c27
                  have c27b1 : ((t261.length : Int) != (t252.length : Int)) = true := bne_iff_ne.mpr c27
                  have c27b2 : (t261.length == t252.length) = false := by first | simpa using c27 | (simp at c27 ⊢; omega)
                  have H' := Aside0.mk H
                  clear H
                  obtain ⟨Ao32, co32, eo32⟩ := Kd.R_slice HO257.out
                  subst eo32
                  obtain ⟨Ao33, co33, eo33⟩ := Kd.R_slice HO260.out
                  subst eo33
                  obtain ⟨Ao34, co34, eo34⟩ := Kd.R_slice HO263.out
                  subst eo34
                  go_wp2
                  repeat (go_quiet (fail); try go_wp2)
                  go_meet
                  case rel => exact ⟨_, (true), (by first | rfl | (simp; done) | (simp [*]; done) | exact congrArg (Value.int _) (by unfold wrap64; omega)), H', ⟨by have := HJ10.out; first | omega | exact Nat.le_refl _⟩, ⟨by (with_reducible repeat (first | apply Kd.R_alloc | apply Kd.R_drewN | apply Kd.R_drew)); exact HO_7.out⟩, ⟨by (with_reducible repeat (first | apply Kd.R_alloc | apply Kd.R_drewN | apply Kd.R_drew)); exact Kd.R_mono HO257.out (fun _ hk => ⟨hk.1.1.2, ⟨hk.1.2, hk.2⟩⟩)⟩, ⟨by (with_reducible repeat (first | apply Kd.R_alloc | apply Kd.R_drewN | apply Kd.R_drew)); exact Kd.R_mono HO260.out (fun _ hk => ⟨hk.1.1.2, ⟨hk.1.2, hk.2⟩⟩)⟩, ⟨by (with_reducible repeat (first | apply Kd.R_alloc | apply Kd.R_drewN | apply Kd.R_drew)); exact Kd.R_mono HO263.out (fun _ hk => ⟨hk.1.1.2, ⟨hk.1.2, hk.2⟩⟩)⟩, ⟨by (with_reducible repeat (first | apply Kd.R_alloc | apply Kd.R_drewN | apply Kd.R_drew)); exact Kd.R_mono HO266.out (fun _ hk => ⟨hk.1.1.2, ⟨hk.1.2, hk.2⟩⟩)⟩, ⟨by repeat (first | (with_reducible first | exact HB.out | apply below_alloc | apply pw_below_drewN | apply below_drew1) | exact HB.out)⟩⟩
              · rw [if_neg c26] at H
                have c26b0 : ((t258.length : Int) == (t252.length : Int)) = false := beq_eq_false_iff_ne.mpr c26
                have c26b1 : ((t258.length : Int) != (t252.length : Int)) = true := bne_iff_ne.mpr c26
                have c26b2 : (t258.length == t252.length) = false := by first | simpa using c26 | (simp at c26 ⊢; omega)
                have H' := Aside0.mk H
                clear H
                obtain ⟨Ao35, co35, eo35⟩ := Kd.R_slice HO257.out
                subst eo35
                obtain ⟨Ao36, co36, eo36⟩ := Kd.R_slice HO260.out
                subst eo36
                go_wp2
                repeat (go_quiet (fail); try go_wp2)
                go_meet
                case rel => exact ⟨_, (true), (by first | rfl | (simp; done) | (simp [*]; done) | exact congrArg (Value.int _) (by unfold wrap64; omega)), H', ⟨by have := HJ10.out; first | omega | exact Nat.le_refl _⟩, ⟨by (with_reducible repeat (first | apply Kd.R_alloc | apply Kd.R_drewN | apply Kd.R_drew)); exact HO_7.out⟩, ⟨by (with_reducible repeat (first | apply Kd.R_alloc | apply Kd.R_drewN | apply Kd.R_drew)); exact Kd.R_mono HO257.out (fun _ hk => ⟨hk.1.1.2, ⟨hk.1.2, hk.2⟩⟩)⟩, ⟨by (with_reducible repeat (first | apply Kd.R_alloc | apply Kd.R_drewN | apply Kd.R_drew)); exact Kd.R_mono HO260.out (fun _ hk => ⟨hk.1.1.2, ⟨hk.1.2, hk.2⟩⟩)⟩, ⟨by (with_reducible repeat (first | apply Kd.R_alloc | apply Kd.R_drewN | apply Kd.R_drew)); exact Kd.R_mono HO263.out (fun _ hk => ⟨hk.1.1.2, ⟨hk.1.2, hk.2⟩⟩)⟩, ⟨by (with_reducible repeat (first | apply Kd.R_alloc | apply Kd.R_drewN | apply Kd.R_drew)); exact Kd.R_mono HO266.out (fun _ hk => ⟨hk.1.1.2, ⟨hk.1.2, hk.2⟩⟩)⟩, ⟨by repeat (first | (with_reducible first | exact HB.out | apply below_alloc | apply pw_below_drewN | apply below_drew1) | exact HB.out)⟩⟩
            · rw [if_neg c25] at H
              have c25b0 : ((t255.length : Int) == (t252.length : Int)) = false := beq_eq_false_iff_ne.mpr c25
              have c25b1 : ((t255.length : Int) != (t252.length : Int)) = true := bne_iff_ne.mpr c25
              have c25b2 : (t255.length == t252.length) = false := by first | simpa using c25 | (simp at c25 ⊢; omega)
              (first | rw [c25b0] | (simp only [i64_w, i32_w]; rw [c25b0]) | skip)
              have H' := Aside0.mk H
              clear H
              obtain ⟨Ao37, co37, eo37⟩ := Kd.R_slice HO257.out
              subst eo37
              go_wp2
              repeat (go_quiet (fail); try go_wp2)
              go_meet
              case rel => exact ⟨_, (true), (by first | rfl | (simp; done) | (simp [*]; done) | exact congrArg (Value.int _) (by unfold wrap64; omega)), H', ⟨by have := HJ10.out; first | omega | exact Nat.le_refl _⟩, ⟨by (with_reducible repeat (first | apply Kd.R_alloc | apply Kd.R_drewN | apply Kd.R_drew)); exact HO_7.out⟩, ⟨by (with_reducible repeat (first | apply Kd.R_alloc | apply Kd.R_drewN | apply Kd.R_drew)); exact Kd.R_mono HO257.out (fun _ hk => ⟨hk.1.1.2, ⟨hk.1.2, hk.2⟩⟩)⟩, ⟨by (with_reducible repeat (first | apply Kd.R_alloc | apply Kd.R_drewN | apply Kd.R_drew)); exact Kd.R_mono HO260.out (fun _ hk => ⟨hk.1.1.2, ⟨hk.1.2, hk.2⟩⟩)⟩, ⟨by (with_reducible repeat (first | apply Kd.R_alloc | apply Kd.R_drewN | apply Kd.R_drew)); exact Kd.R_mono HO263.out (fun _ hk => ⟨hk.1.1.2, ⟨hk.1.2, hk.2⟩⟩)⟩, ⟨by (with_reducible repeat (first | apply Kd.R_alloc | apply Kd.R_drewN | apply Kd.R_drew)); exact Kd.R_mono HO266.out (fun _ hk => ⟨hk.1.1.2, ⟨hk.1.2, hk.2⟩⟩)⟩, ⟨by repeat (first | (with_reducible first | exact HB.out | apply below_alloc | apply pw_below_drewN | apply below_drew1) | exact HB.out)⟩⟩
          case rest =>
            clear HC19
            try clear c1
            try clear c2
            try clear p2
            try clear c5
            try clear c6
            try clear c6b0
            try clear c6b1
            try clear p6
            try clear c8
            try clear c14
            try clear c14b0
            try clear c25
            try clear c25b0
            try clear c25b1
            try clear c25b2
            try clear c26
            try clear c26b0
            try clear c26b1
            try clear c26b2
            try clear c27
            try clear c27b0
            try clear c27b1
            try clear c27b2
            try clear p2
            try clear p6
            obtain ⟨kq, x74_18, rfl, HA, HJ18, HO_7, HO_10, HO_11, HO_12, HO_13, HB⟩ := hcut
            cases kq with
            | zero => exact absurd HA.out (by simp [flagstonelaw40_WealthMonotone.j1])
            | succ kj18 =>
              have H := HA.out
              clear HA
              simp only [flagstonelaw40_WealthMonotone.j1] at H
              by_cases c38 : x74_18 = true
              · subst c38
                have H1 : (some false) = some r := by rw [if_pos rfl] at H; exact H
                clear H
                have H := H1
                clear H1
                obtain rfl := Option.some.inj H
                go_wp2
                repeat (go_quiet (fail); try go_wp2)
                go_ret
                exact ⟨by first | rfl | (simp [errW_none, errW_some] <;> rfl) | (simp only [← hji9, ← hji10]; first | rfl | (simp [errW_none, errW_some] <;> rfl)) | (simp [*, errW_none, errW_some] <;> rfl), by repeat (first | (with_reducible first | exact HB.out | apply below_alloc | apply pw_below_drewN | apply below_drew1) | exact HB.out)⟩
              · replace c38 := Bool.eq_false_iff.mpr c38
                subst c38
                have H1 : (flagstonelaw40_WealthMonotone.l0 kj18 t252 t255 t258 t261 t264 0) = some r := by rw [if_neg (show ¬ (false = true) by decide)] at H; exact H
                clear H
                have H := H1
                clear H1
                have H' := Aside0.mk H
                clear H
                go_wp2
                repeat (go_quiet (fail); try go_wp2)
                go_loopg [14] kj18 (fun kq v14 w' => ∃ (x14_3 : Int), v14 = .int .i64 x14_3 ∧ Aside0 (flagstonelaw40_WealthMonotone.l0 kq t252 t255 t258 t261 t264 x14_3 = some r) ∧ Aside0 (kq ≤ kj18) ∧ Aside0 (Kd.R k28 28 w' w.heap.size (fun _ => True) (.slice Ao20 t252.length co20) t252) ∧ Aside0 (Kd.R (Kd.int .i64) 3 w' w.heap.size (fun k_ => some k_ ≠ (v259 : Value).ownBlock ∧ some k_ ≠ (v262 : Value).ownBlock ∧ some k_ ≠ (v265 : Value).ownBlock) v256 t255) ∧ Aside0 (Kd.R (Kd.int .i64) 3 w' w.heap.size (fun k_ => some k_ ≠ (v256 : Value).ownBlock ∧ some k_ ≠ (v262 : Value).ownBlock ∧ some k_ ≠ (v265 : Value).ownBlock) v259 t258) ∧ Aside0 (Kd.R (Kd.int .i64) 3 w' w.heap.size (fun k_ => some k_ ≠ (v256 : Value).ownBlock ∧ some k_ ≠ (v259 : Value).ownBlock ∧ some k_ ≠ (v265 : Value).ownBlock) v262 t261) ∧ Aside0 (Kd.R (Kd.int .i64) 3 w' w.heap.size (fun k_ => some k_ ≠ (v256 : Value).ownBlock ∧ some k_ ≠ (v259 : Value).ownBlock ∧ some k_ ≠ (v262 : Value).ownBlock) v265 t264) ∧ Aside0 (Below w.heap.size w w'))
                case atStart => exact ⟨(0), (by first | rfl | (simp; done) | (simp [*]; done) | exact congrArg (Value.int _) (by unfold wrap64; omega)), H', ⟨Nat.le_refl _⟩, ⟨by (with_reducible repeat (first | apply Kd.R_alloc | apply Kd.R_drewN | apply Kd.R_drew)); exact HO_7.out⟩, ⟨by (with_reducible repeat (first | apply Kd.R_alloc | apply Kd.R_drewN | apply Kd.R_drew)); exact HO_10.out⟩, ⟨by (with_reducible repeat (first | apply Kd.R_alloc | apply Kd.R_drewN | apply Kd.R_drew)); exact HO_11.out⟩, ⟨by (with_reducible repeat (first | apply Kd.R_alloc | apply Kd.R_drewN | apply Kd.R_drew)); exact HO_12.out⟩, ⟨by (with_reducible repeat (first | apply Kd.R_alloc | apply Kd.R_drewN | apply Kd.R_drew)); exact HO_13.out⟩, ⟨by repeat (first | (with_reducible first | exact HB.out | apply below_alloc | apply pw_below_drewN | apply below_drew1) | exact HB.out)⟩⟩
                case round =>
                  clear H'
                  try clear c1
                  try clear c2
                  try clear p2
                  try clear c3
                  try clear c5
                  try clear c6
                  try clear c6b0
                  try clear c6b1
                  try clear p6
                  try clear c8
                  try clear c14
                  try clear c14b0
                  try clear c25
                  try clear c25b0
                  try clear c25b1
                  try clear c25b2
                  try clear c26
                  try clear c26b0
                  try clear c26b1
                  try clear c26b2
                  try clear c27
                  try clear c27b0
                  try clear c27b1
                  try clear c27b2
                  try clear c38
                  try clear p2
                  try clear p6
                  obtain ⟨x14_3, rfl, HA, HK3, HO_7, HO_10, HO_11, HO_12, HO_13, HB⟩ := hrel
                  cases gk with
                  | zero => exact absurd HA.out (by simp [flagstonelaw40_WealthMonotone.l0])
                  | succ k3 =>
                    have H := HA.out
                    clear HA
                    simp only [flagstonelaw40_WealthMonotone.l0] at H
                    by_cases c39 : x14_3 < (t252.length : Int)
                    · rw [if_pos c39] at H
                      have c39b0 : decide (x14_3 < (t252.length : Int)) = true := decide_eq_true c39
                      clear c39
                      have HC40 := Aside0.mk H
                      clear H
                      go_upto_region 16 with (fail)
                      repeat (go_quiet (fail); go_upto_region 16 with (fail))
                      go_cut [114] (fun v114 wc => ∃ (kq : Nat) (x114_39 : Bool), v114 = .bool x114_39 ∧ Aside0 (flagstonelaw40_WealthMonotone.j3 kq t252 t255 t258 t261 t264 x14_3 x114_39 = some r) ∧ Aside0 (kq ≤ k3) ∧ Aside0 (Kd.R k28 28 wc w.heap.size (fun _ => True) (.slice Ao20 t252.length co20) t252) ∧ Aside0 (Kd.R (Kd.int .i64) 3 wc w.heap.size (fun k_ => some k_ ≠ (v259 : Value).ownBlock ∧ some k_ ≠ (v262 : Value).ownBlock ∧ some k_ ≠ (v265 : Value).ownBlock) v256 t255) ∧ Aside0 (Kd.R (Kd.int .i64) 3 wc w.heap.size (fun k_ => some k_ ≠ (v256 : Value).ownBlock ∧ some k_ ≠ (v262 : Value).ownBlock ∧ some k_ ≠ (v265 : Value).ownBlock) v259 t258) ∧ Aside0 (Kd.R (Kd.int .i64) 3 wc w.heap.size (fun k_ => some k_ ≠ (v256 : Value).ownBlock ∧ some k_ ≠ (v259 : Value).ownBlock ∧ some k_ ≠ (v265 : Value).ownBlock) v262 t261) ∧ Aside0 (Kd.R (Kd.int .i64) 3 wc w.heap.size (fun k_ => some k_ ≠ (v256 : Value).ownBlock ∧ some k_ ≠ (v259 : Value).ownBlock ∧ some k_ ≠ (v262 : Value).ownBlock) v265 t264) ∧ Aside0 (Below w.heap.size w wc))
                      case first =>
                        have H := HC40.out
                        clear HC40
                        by_cases c41 : 0 ≤ x14_3
                        · rw [if_pos c41] at H
                          have c41b0 : decide (0 ≤ x14_3) = true := decide_eq_true c41
                          clear c41
                          (first | rw [c41b0] | (simp only [i64_w, i32_w]; rw [c41b0]) | skip)
                          by_cases c42 : x14_3 < (t255.length : Int)
                          · rw [if_pos c42] at H
                            have c42b0 : decide (x14_3 < (t255.length : Int)) = true := decide_eq_true c42
                            clear c42
                            by_cases c43 : x14_3 < (t258.length : Int)
                            · rw [if_pos c43] at H
                              have c43b0 : decide (x14_3 < (t258.length : Int)) = true := decide_eq_true c43
                              clear c43
                              by_cases c44 : (rd t255 x14_3) < (rd t258 x14_3)
                              · rw [if_pos c44] at H
                                have c44b0 : decide ((rd t255 x14_3) < (rd t258 x14_3)) = true := decide_eq_true c44
                                clear c44
                                have H' := Aside0.mk H
                                clear H
                                obtain ⟨Ao45, co45, eo45⟩ := Kd.R_slice HO_10.out
                                subst eo45
                                have p267 : 0 ≤ (x14_3 : Int) := of_decide_eq_true (by first | (with_reducible assumption) | assumption)
                                have q267 : x14_3 < (t255.length : Int) := of_decide_eq_true (by first | (with_reducible assumption) | assumption)
                                obtain ⟨ad267, e267, hx267_0⟩ := Kd.at_int (Kd.R_reads' HO_10.out).2.2 x14_3 p267 q267
                                cases e267
                                replace p267 := eq_true p267
                                replace q267 := eq_true q267
                                obtain ⟨Ao46, co46, eo46⟩ := Kd.R_slice HO_11.out
                                subst eo46
                                have p268 : 0 ≤ (x14_3 : Int) := of_decide_eq_true (by first | (with_reducible assumption) | assumption)
                                have q268 : x14_3 < (t258.length : Int) := of_decide_eq_true (by first | (with_reducible assumption) | assumption)
                                obtain ⟨ad268, e268, hx268_0⟩ := Kd.at_int (Kd.R_reads' HO_11.out).2.2 x14_3 p268 q268
                                cases e268
                                replace p268 := eq_true p268
                                replace q268 := eq_true q268
                                go_wp2
                                repeat (go_quiet (fail); try go_wp2)
                                go_meet
                                case rel => exact ⟨_, (true), (by first | rfl | (simp; done) | (simp [*]; done) | exact congrArg (Value.int _) (by unfold wrap64; omega)), H', ⟨by have := HJ10.out; have := HJ18.out; have := HK3.out; first | omega | exact Nat.le_refl _⟩, ⟨by (with_reducible repeat (first | apply Kd.R_alloc | apply Kd.R_drewN | apply Kd.R_drew)); exact HO_7.out⟩, ⟨by (with_reducible repeat (first | apply Kd.R_alloc | apply Kd.R_drewN | apply Kd.R_drew)); exact HO_10.out⟩, ⟨by (with_reducible repeat (first | apply Kd.R_alloc | apply Kd.R_drewN | apply Kd.R_drew)); exact HO_11.out⟩, ⟨by (with_reducible repeat (first | apply Kd.R_alloc | apply Kd.R_drewN | apply Kd.R_drew)); exact HO_12.out⟩, ⟨by (with_reducible repeat (first | apply Kd.R_alloc | apply Kd.R_drewN | apply Kd.R_drew)); exact HO_13.out⟩, ⟨by repeat (first | (with_reducible first | exact HB.out | apply below_alloc | apply pw_below_drewN | apply below_drew1) | exact HB.out)⟩⟩
                              · rw [if_neg c44] at H
                                have c44b0 : decide ((rd t255 x14_3) < (rd t258 x14_3)) = false := decide_eq_false c44
                                clear c44
                                by_cases c47 : x14_3 < (t261.length : Int)
                                · rw [if_pos c47] at H
                                  have c47b0 : decide (x14_3 < (t261.length : Int)) = true := decide_eq_true c47
                                  clear c47
                                  by_cases c48 : x14_3 < (t264.length : Int)
                                  · rw [if_pos c48] at H
                                    have c48b0 : decide (x14_3 < (t264.length : Int)) = true := decide_eq_true c48
                                    clear c48
                                    by_cases c49 : (rd t261 x14_3) > (rd t264 x14_3)
                                    · rw [if_pos c49] at H
                                      have c49b0 : decide ((rd t264 x14_3) < (rd t261 x14_3)) = true := decide_eq_true c49
                                      clear c49
                                      have H' := Aside0.mk H
                                      clear H
                                      obtain ⟨Ao50, co50, eo50⟩ := Kd.R_slice HO_10.out
                                      subst eo50
                                      have p267 : 0 ≤ (x14_3 : Int) := of_decide_eq_true (by first | (with_reducible assumption) | assumption)
                                      have q267 : x14_3 < (t255.length : Int) := of_decide_eq_true (by first | (with_reducible assumption) | assumption)
                                      obtain ⟨ad267, e267, hx267_0⟩ := Kd.at_int (Kd.R_reads' HO_10.out).2.2 x14_3 p267 q267
                                      cases e267
                                      replace p267 := eq_true p267
                                      replace q267 := eq_true q267
                                      obtain ⟨Ao51, co51, eo51⟩ := Kd.R_slice HO_11.out
                                      subst eo51
                                      have p268 : 0 ≤ (x14_3 : Int) := of_decide_eq_true (by first | (with_reducible assumption) | assumption)
                                      have q268 : x14_3 < (t258.length : Int) := of_decide_eq_true (by first | (with_reducible assumption) | assumption)
                                      obtain ⟨ad268, e268, hx268_0⟩ := Kd.at_int (Kd.R_reads' HO_11.out).2.2 x14_3 p268 q268
                                      cases e268
                                      replace p268 := eq_true p268
                                      replace q268 := eq_true q268
                                      obtain ⟨Ao52, co52, eo52⟩ := Kd.R_slice HO_12.out
                                      subst eo52
                                      have p269 : 0 ≤ (x14_3 : Int) := of_decide_eq_true (by first | (with_reducible assumption) | assumption)
                                      have q269 : x14_3 < (t261.length : Int) := of_decide_eq_true (by first | (with_reducible assumption) | assumption)
                                      obtain ⟨ad269, e269, hx269_0⟩ := Kd.at_int (Kd.R_reads' HO_12.out).2.2 x14_3 p269 q269
                                      cases e269
                                      replace p269 := eq_true p269
                                      replace q269 := eq_true q269
                                      obtain ⟨Ao53, co53, eo53⟩ := Kd.R_slice HO_13.out
                                      subst eo53
                                      have p270 : 0 ≤ (x14_3 : Int) := of_decide_eq_true (by first | (with_reducible assumption) | assumption)
                                      have q270 : x14_3 < (t264.length : Int) := of_decide_eq_true (by first | (with_reducible assumption) | assumption)
                                      obtain ⟨ad270, e270, hx270_0⟩ := Kd.at_int (Kd.R_reads' HO_13.out).2.2 x14_3 p270 q270
                                      cases e270
                                      replace p270 := eq_true p270
                                      replace q270 := eq_true q270
                                      go_wp2
                                      repeat (go_quiet (fail); try go_wp2)
                                      go_meet
                                      case rel => exact ⟨_, (true), (by first | rfl | (simp; done) | (simp [*]; done) | exact congrArg (Value.int _) (by unfold wrap64; omega)), H', ⟨by have := HJ10.out; have := HJ18.out; have := HK3.out; first | omega | exact Nat.le_refl _⟩, ⟨by (with_reducible repeat (first | apply Kd.R_alloc | apply Kd.R_drewN | apply Kd.R_drew)); exact HO_7.out⟩, ⟨by (with_reducible repeat (first | apply Kd.R_alloc | apply Kd.R_drewN | apply Kd.R_drew)); exact HO_10.out⟩, ⟨by (with_reducible repeat (first | apply Kd.R_alloc | apply Kd.R_drewN | apply Kd.R_drew)); exact HO_11.out⟩, ⟨by (with_reducible repeat (first | apply Kd.R_alloc | apply Kd.R_drewN | apply Kd.R_drew)); exact HO_12.out⟩, ⟨by (with_reducible repeat (first | apply Kd.R_alloc | apply Kd.R_drewN | apply Kd.R_drew)); exact HO_13.out⟩, ⟨by repeat (first | (with_reducible first | exact HB.out | apply below_alloc | apply pw_below_drewN | apply below_drew1) | exact HB.out)⟩⟩
                                    · rw [if_neg c49] at H
                                      have c49b0 : decide ((rd t264 x14_3) < (rd t261 x14_3)) = false := decide_eq_false c49
                                      clear c49
                                      by_cases c54 : (rd t255 x14_3) < 0
                                      · rw [if_pos c54] at H
                                        have c54b0 : decide ((rd t255 x14_3) < 0) = true := decide_eq_true c54
                                        clear c54
                                        have H' := Aside0.mk H
                                        clear H
                                        obtain ⟨Ao55, co55, eo55⟩ := Kd.R_slice HO_10.out
                                        subst eo55
                                        have p267 : 0 ≤ (x14_3 : Int) := of_decide_eq_true (by first | (with_reducible assumption) | assumption)
                                        have q267 : x14_3 < (t255.length : Int) := of_decide_eq_true (by first | (with_reducible assumption) | assumption)
                                        obtain ⟨ad267, e267, hx267_0⟩ := Kd.at_int (Kd.R_reads' HO_10.out).2.2 x14_3 p267 q267
                                        cases e267
                                        replace p267 := eq_true p267
                                        replace q267 := eq_true q267
                                        obtain ⟨Ao56, co56, eo56⟩ := Kd.R_slice HO_11.out
                                        subst eo56
                                        have p268 : 0 ≤ (x14_3 : Int) := of_decide_eq_true (by first | (with_reducible assumption) | assumption)
                                        have q268 : x14_3 < (t258.length : Int) := of_decide_eq_true (by first | (with_reducible assumption) | assumption)
                                        obtain ⟨ad268, e268, hx268_0⟩ := Kd.at_int (Kd.R_reads' HO_11.out).2.2 x14_3 p268 q268
                                        cases e268
                                        replace p268 := eq_true p268
                                        replace q268 := eq_true q268
                                        obtain ⟨Ao57, co57, eo57⟩ := Kd.R_slice HO_12.out
                                        subst eo57
                                        have p269 : 0 ≤ (x14_3 : Int) := of_decide_eq_true (by first | (with_reducible assumption) | assumption)
                                        have q269 : x14_3 < (t261.length : Int) := of_decide_eq_true (by first | (with_reducible assumption) | assumption)
                                        obtain ⟨ad269, e269, hx269_0⟩ := Kd.at_int (Kd.R_reads' HO_12.out).2.2 x14_3 p269 q269
                                        cases e269
                                        replace p269 := eq_true p269
                                        replace q269 := eq_true q269
                                        obtain ⟨Ao58, co58, eo58⟩ := Kd.R_slice HO_13.out
                                        subst eo58
                                        have p270 : 0 ≤ (x14_3 : Int) := of_decide_eq_true (by first | (with_reducible assumption) | assumption)
                                        have q270 : x14_3 < (t264.length : Int) := of_decide_eq_true (by first | (with_reducible assumption) | assumption)
                                        obtain ⟨ad270, e270, hx270_0⟩ := Kd.at_int (Kd.R_reads' HO_13.out).2.2 x14_3 p270 q270
                                        cases e270
                                        replace p270 := eq_true p270
                                        replace q270 := eq_true q270
                                        have p271 : 0 ≤ (x14_3 : Int) := of_decide_eq_true (by first | (with_reducible assumption) | assumption)
                                        have q271 : x14_3 < (t255.length : Int) := of_decide_eq_true (by first | (with_reducible assumption) | assumption)
                                        obtain ⟨ad271, e271, hx271_0⟩ := Kd.at_int (Kd.R_reads' HO_10.out).2.2 x14_3 p271 q271
                                        obtain rfl : ad267 = ad271 := (by injection e271)
                                        replace p271 := eq_true p271
                                        replace q271 := eq_true q271
                                        go_wp2
                                        repeat (go_quiet (fail); try go_wp2)
                                        go_meet
                                        case rel => exact ⟨_, (true), (by first | rfl | (simp; done) | (simp [*]; done) | exact congrArg (Value.int _) (by unfold wrap64; omega)), H', ⟨by have := HJ10.out; have := HJ18.out; have := HK3.out; first | omega | exact Nat.le_refl _⟩, ⟨by (with_reducible repeat (first | apply Kd.R_alloc | apply Kd.R_drewN | apply Kd.R_drew)); exact HO_7.out⟩, ⟨by (with_reducible repeat (first | apply Kd.R_alloc | apply Kd.R_drewN | apply Kd.R_drew)); exact HO_10.out⟩, ⟨by (with_reducible repeat (first | apply Kd.R_alloc | apply Kd.R_drewN | apply Kd.R_drew)); exact HO_11.out⟩, ⟨by (with_reducible repeat (first | apply Kd.R_alloc | apply Kd.R_drewN | apply Kd.R_drew)); exact HO_12.out⟩, ⟨by (with_reducible repeat (first | apply Kd.R_alloc | apply Kd.R_drewN | apply Kd.R_drew)); exact HO_13.out⟩, ⟨by repeat (first | (with_reducible first | exact HB.out | apply below_alloc | apply pw_below_drewN | apply below_drew1) | exact HB.out)⟩⟩
                                      · rw [if_neg c54] at H
                                        have c54b0 : decide ((rd t255 x14_3) < 0) = false := decide_eq_false c54
                                        clear c54
                                        have H' := Aside0.mk H
                                        clear H
                                        obtain ⟨Ao59, co59, eo59⟩ := Kd.R_slice HO_10.out
                                        subst eo59
                                        have p267 : 0 ≤ (x14_3 : Int) := of_decide_eq_true (by first | (with_reducible assumption) | assumption)
                                        have q267 : x14_3 < (t255.length : Int) := of_decide_eq_true (by first | (with_reducible assumption) | assumption)
                                        obtain ⟨ad267, e267, hx267_0⟩ := Kd.at_int (Kd.R_reads' HO_10.out).2.2 x14_3 p267 q267
                                        cases e267
                                        replace p267 := eq_true p267
                                        replace q267 := eq_true q267
                                        obtain ⟨Ao60, co60, eo60⟩ := Kd.R_slice HO_11.out
                                        subst eo60
                                        have p268 : 0 ≤ (x14_3 : Int) := of_decide_eq_true (by first | (with_reducible assumption) | assumption)
                                        have q268 : x14_3 < (t258.length : Int) := of_decide_eq_true (by first | (with_reducible assumption) | assumption)
                                        obtain ⟨ad268, e268, hx268_0⟩ := Kd.at_int (Kd.R_reads' HO_11.out).2.2 x14_3 p268 q268
                                        cases e268
                                        replace p268 := eq_true p268
                                        replace q268 := eq_true q268
                                        obtain ⟨Ao61, co61, eo61⟩ := Kd.R_slice HO_12.out
                                        subst eo61
                                        have p269 : 0 ≤ (x14_3 : Int) := of_decide_eq_true (by first | (with_reducible assumption) | assumption)
                                        have q269 : x14_3 < (t261.length : Int) := of_decide_eq_true (by first | (with_reducible assumption) | assumption)
                                        obtain ⟨ad269, e269, hx269_0⟩ := Kd.at_int (Kd.R_reads' HO_12.out).2.2 x14_3 p269 q269
                                        cases e269
                                        replace p269 := eq_true p269
                                        replace q269 := eq_true q269
                                        obtain ⟨Ao62, co62, eo62⟩ := Kd.R_slice HO_13.out
                                        subst eo62
                                        have p270 : 0 ≤ (x14_3 : Int) := of_decide_eq_true (by first | (with_reducible assumption) | assumption)
                                        have q270 : x14_3 < (t264.length : Int) := of_decide_eq_true (by first | (with_reducible assumption) | assumption)
                                        obtain ⟨ad270, e270, hx270_0⟩ := Kd.at_int (Kd.R_reads' HO_13.out).2.2 x14_3 p270 q270
                                        cases e270
                                        replace p270 := eq_true p270
                                        replace q270 := eq_true q270
                                        have p271 : 0 ≤ (x14_3 : Int) := of_decide_eq_true (by first | (with_reducible assumption) | assumption)
                                        have q271 : x14_3 < (t255.length : Int) := of_decide_eq_true (by first | (with_reducible assumption) | assumption)
                                        obtain ⟨ad271, e271, hx271_0⟩ := Kd.at_int (Kd.R_reads' HO_10.out).2.2 x14_3 p271 q271
                                        obtain rfl : ad267 = ad271 := (by injection e271)
                                        replace p271 := eq_true p271
                                        replace q271 := eq_true q271
                                        have p272 : 0 ≤ (x14_3 : Int) := of_decide_eq_true (by first | (with_reducible assumption) | assumption)
                                        have q272 : x14_3 < (t255.length : Int) := of_decide_eq_true (by first | (with_reducible assumption) | assumption)
                                        obtain ⟨ad272, e272, hx272_0⟩ := Kd.at_int (Kd.R_reads' HO_10.out).2.2 x14_3 p272 q272
                                        obtain rfl : ad267 = ad272 := (by injection e272)
                                        replace p272 := eq_true p272
                                        replace q272 := eq_true q272
                                        go_wp2
                                        repeat (go_quiet (fail); try go_wp2)
                                        go_meet
                                        case rel => exact ⟨_, (decide ((rd t255 x14_3) > 2305843009213693952)), (by first | rfl | (simp; done) | (simp [*]; done) | exact congrArg (Value.int _) (by unfold wrap64; omega)), H', ⟨by have := HJ10.out; have := HJ18.out; have := HK3.out; first | omega | exact Nat.le_refl _⟩, ⟨by (with_reducible repeat (first | apply Kd.R_alloc | apply Kd.R_drewN | apply Kd.R_drew)); exact HO_7.out⟩, ⟨by (with_reducible repeat (first | apply Kd.R_alloc | apply Kd.R_drewN | apply Kd.R_drew)); exact HO_10.out⟩, ⟨by (with_reducible repeat (first | apply Kd.R_alloc | apply Kd.R_drewN | apply Kd.R_drew)); exact HO_11.out⟩, ⟨by (with_reducible repeat (first | apply Kd.R_alloc | apply Kd.R_drewN | apply Kd.R_drew)); exact HO_12.out⟩, ⟨by (with_reducible repeat (first | apply Kd.R_alloc | apply Kd.R_drewN | apply Kd.R_drew)); exact HO_13.out⟩, ⟨by repeat (first | (with_reducible first | exact HB.out | apply below_alloc | apply pw_below_drewN | apply below_drew1) | exact HB.out)⟩⟩
                                  · rw [if_neg c48] at H
                                    exact absurd H (by simp)
                                · rw [if_neg c47] at H
                                  exact absurd H (by simp)
                            · rw [if_neg c43] at H
                              exact absurd H (by simp)
                          · rw [if_neg c42] at H
                            exact absurd H (by simp)
                        · rw [if_neg c41] at H
                          exact absurd H (by simp)
                      case rest =>
                        clear HC40
                        try clear c1
                        try clear c2
                        try clear p2
                        try clear q2
                        try clear hx2
                        try clear c3
                        try clear c4
                        try clear c5
                        try clear c6
                        try clear c6b0
                        try clear c6b1
                        try clear p6
                        try clear c8
                        try clear c14
                        try clear c14b0
                        try clear c25
                        try clear c25b0
                        try clear c25b1
                        try clear c25b2
                        try clear c26
                        try clear c26b0
                        try clear c26b1
                        try clear c26b2
                        try clear p26
                        try clear q26
                        try clear hx26
                        try clear c27
                        try clear c27b0
                        try clear c27b1
                        try clear c27b2
                        try clear p27
                        try clear q27
                        try clear hx27
                        try clear c38
                        try clear c39
                        try clear c39b0
                        try clear c41
                        try clear c41b0
                        try clear c42
                        try clear c42b0
                        try clear c43
                        try clear c43b0
                        try clear c44
                        try clear c44b0
                        try clear c47
                        try clear c47b0
                        try clear c48
                        try clear c48b0
                        try clear c49
                        try clear c49b0
                        try clear c54
                        try clear c54b0
                        try clear hx267_0
                        try clear hx268_0
                        try clear hx269_0
                        try clear hx270_0
                        try clear hx271_0
                        try clear hx272_0
                        try clear p2
                        try clear p267
                        try clear p268
                        try clear p269
                        try clear p270
                        try clear p271
                        try clear p272
                        try clear p6
                        try clear q267
                        try clear q268
                        try clear q269
                        try clear q270
                        try clear q271
                        try clear q272
                        obtain ⟨kq, x114_39, rfl, HA, HJ39, HO_7, HO_10, HO_11, HO_12, HO_13, HB⟩ := hcut
                        cases kq with
                        | zero => exact absurd HA.out (by simp [flagstonelaw40_WealthMonotone.j3])
                        | succ kj39 =>
                          have H := HA.out
                          clear HA
                          simp only [flagstonelaw40_WealthMonotone.j3] at H
                          by_cases c63 : x114_39 = true
                          · subst c63
                            have H1 : (some false) = some r := by rw [if_pos rfl] at H; exact H
                            clear H
                            have H := H1
                            clear H1
                            obtain rfl := Option.some.inj H
                            go_wp2
                            repeat (go_quiet (fail); try go_wp2)
                            go_ret
                            exact ⟨by first | rfl | (simp [errW_none, errW_some] <;> rfl) | (simp only [← hji9, ← hji10]; first | rfl | (simp [errW_none, errW_some] <;> rfl)) | (simp [*, errW_none, errW_some] <;> rfl), by repeat (first | (with_reducible first | exact HB.out | apply below_alloc | apply pw_below_drewN | apply below_drew1) | exact HB.out)⟩
                          · replace c63 := Bool.eq_false_iff.mpr c63
                            subst c63
                            have H1 : (flagstonelaw40_WealthMonotone.l0 kj39 t252 t255 t258 t261 t264 (wrap64 (x14_3 + 1))) = some r := by rw [if_neg (show ¬ (false = true) by decide)] at H; exact H
                            clear H
                            have H := H1
                            clear H1
                            have H' := Aside0.mk H
                            clear H
                            go_wp2
                            repeat (go_quiet (fail); try go_wp2)
                            go_roundg kj39
                            case measure => have := HJ10.out; have := HJ18.out; have := HK3.out; have := HJ39.out; omega
                            case rel => exact ⟨(wrap64 (x14_3 + 1)), (by first | rfl | (simp; done) | (simp [*]; done) | exact congrArg (Value.int _) (by unfold wrap64; omega)), H', ⟨by have := HJ10.out; have := HJ18.out; have := HK3.out; have := HJ39.out; omega⟩, ⟨by (with_reducible repeat (first | apply Kd.R_alloc | apply Kd.R_drewN | apply Kd.R_drew)); exact HO_7.out⟩, ⟨by (with_reducible repeat (first | apply Kd.R_alloc | apply Kd.R_drewN | apply Kd.R_drew)); exact HO_10.out⟩, ⟨by (with_reducible repeat (first | apply Kd.R_alloc | apply Kd.R_drewN | apply Kd.R_drew)); exact HO_11.out⟩, ⟨by (with_reducible repeat (first | apply Kd.R_alloc | apply Kd.R_drewN | apply Kd.R_drew)); exact HO_12.out⟩, ⟨by (with_reducible repeat (first | apply Kd.R_alloc | apply Kd.R_drewN | apply Kd.R_drew)); exact HO_13.out⟩, ⟨by repeat (first | (with_reducible first | exact HB.out | apply below_alloc | apply pw_below_drewN | apply below_drew1) | exact HB.out)⟩⟩
                    · rw [if_neg c39] at H
                      have c39b0 : decide (x14_3 < (t252.length : Int)) = false := decide_eq_false c39
                      clear c39
                      obtain rfl := Option.some.inj H
                      go_wp2
                      repeat (go_quiet (fail); try go_wp2)
                      go_ret
                      exact ⟨by first | rfl | (simp [errW_none, errW_some] <;> rfl) | (simp only [← hji9, ← hji10]; first | rfl | (simp [errW_none, errW_some] <;> rfl)) | (simp [*, errW_none, errW_some] <;> rfl), by repeat (first | (with_reducible first | exact HB.out | apply below_alloc | apply pw_below_drewN | apply below_drew1) | exact HB.out)⟩
  · replace c5 := Bool.eq_false_iff.mpr c5
    subst c5
    have H1 : (some false) = some r := by rw [if_neg (show ¬ (false = true) by decide)] at H; exact H
    clear H
    have H := H1
    clear H1
    obtain rfl := Option.some.inj H
    go_enter Try.func8, Try.ntmps8
    go_wp2_with (first | (go_at_call 10; (with_reducible refine (flagstonelaw40_awake.calls k  false _ A4.out).mono ?_); rintro e w64 ⟨rfl, hb⟩; have n0_ := Aside0.mk (below_step (by repeat (first | (with_reducible first | exact HB.out | apply below_alloc | apply pw_below_drewN | apply below_drew1) | exact HB.out)) hb); clear HB; have HB := n0_; clear n0_; (try clear hb); (try clear hb2); (try clear hk); (try clear hi)))
    repeat (go_quiet (first | (go_at_call 10; (with_reducible refine (flagstonelaw40_awake.calls k  false _ A4.out).mono ?_); rintro e w64 ⟨rfl, hb⟩; have n0_ := Aside0.mk (below_step (by repeat (first | (with_reducible first | exact HB.out | apply below_alloc | apply pw_below_drewN | apply below_drew1) | exact HB.out)) hb); clear HB; have HB := n0_; clear n0_; (try clear hb); (try clear hb2); (try clear hk); (try clear hi))); try go_wp2_with (first | (go_at_call 10; (with_reducible refine (flagstonelaw40_awake.calls k  false _ A4.out).mono ?_); rintro e w64 ⟨rfl, hb⟩; have n0_ := Aside0.mk (below_step (by repeat (first | (with_reducible first | exact HB.out | apply below_alloc | apply pw_below_drewN | apply below_drew1) | exact HB.out)) hb); clear HB; have HB := n0_; clear n0_; (try clear hb); (try clear hb2); (try clear hk); (try clear hi))))
    go_ret
    exact ⟨by first | rfl | (simp [errW_none, errW_some] <;> rfl) | (simp [*, errW_none, errW_some] <;> rfl), by repeat (first | (with_reducible first | exact HB.out | apply below_alloc | apply pw_below_drewN | apply below_drew1) | exact HB.out)⟩

/-- THE ONE PURE STATEMENT of flagstonelaw40_WealthMonotone: yours. -/
def flagstonelaw40_WealthMonotone.Pure : Prop := ∀ (l0 : List Int) (a1 : Int) (a2 : Int), l0.length ≤ maxLen → l0.length * 1 ≤ 140737488351232 → (∀ x ∈ l0, (Lit.int .u8 x).wf = true) → (Lit.int .i16 a1).wf = true → (Lit.int .i16 a2).wf = true → ∃ k, flagstonelaw40_WealthMonotone.f k l0 a1 a2 = some true
theorem flagstonelaw40_WealthMonotone.walk (P : flagstonelaw40_WealthMonotone.Pure) (a0 : Option Addr) (len0 cap0 : Nat) (z0 : List Int) (a1 : Int) (a2 : Int) (w : World) (w0 : (a0 = none ∧ len0 = 0 ∧ cap0 = 0 ∧ z0 = []) ∨ ∃ x, a0 = some x ∧ len0 ≤ cap0 ∧ cap0 ≤ maxLen ∧ z0.length = cap0 ∧ (∀ i, i < z0.length → w.cell? (x.add i) = some (.int .u8 (z0.getD i 0))) ∧ ∀ n ∈ z0, (Lit.int .u8 n).wf = true) (y0 : len0 * 1 ≤ 140737488351232) (w1 : (Lit.int .i16 a1).wf = true) (w2 : (Lit.int .i16 a2).wf = true) :
    Calls Try.prog 8 #[.slice a0 len0 cap0, .int .i16 a1, .int .i16 a2] w fun e w' => e = .returned (.bool true) ∧ Below w.heap.size w w' := by
  obtain ⟨l0, rfl, hr0, hm0, hw0, hc0⟩ := ReadsInt.ofRowC w0
  obtain ⟨k, h⟩ := P l0 a1 a2 hm0 y0 hw0 w1 w2
  refine (flagstonelaw40_WealthMonotone.calls k _ _ l0 a1 a2 true w (Kd.C_of_reads (d := (0 : Int)) (h1 := fun _ => rfl) hr0) hc0 h).mono ?_
  rintro e w' ⟨rfl, hd⟩
  exact ⟨rfl, hd⟩

/-! ### flagstonedata_Ids: function 38 -/
def flagstonedata_Ids.f  : Option (List ByteArray) := some (([(⟨#[97, 110, 110]⟩ : ByteArray), (⟨#[98, 111, 98]⟩ : ByteArray), (⟨#[99, 97, 116]⟩ : ByteArray), (⟨#[100, 97, 110]⟩ : ByteArray), (⟨#[101, 118, 101]⟩ : ByteArray), (⟨#[102, 97, 121]⟩ : ByteArray)] : List ByteArray))
set_option maxHeartbeats 8000000 in
set_option maxRecDepth 100000 in
theorem flagstonedata_Ids.calls  (r : List ByteArray) (w : World) (h : flagstonedata_Ids.f  = some r) :
    Calls Try.prog 38 #[] w fun e w' => ∃ v0_ : Value, e = .returned (v0_) ∧ Kd.R Kd.string 9 w' w.heap.size (fun _ => True) v0_ r ∧ Below w.heap.size w w' := by
  have HB := Aside0.mk (Below.refl w.heap.size w)
  have H : (some (([(⟨#[97, 110, 110]⟩ : ByteArray), (⟨#[98, 111, 98]⟩ : ByteArray), (⟨#[99, 97, 116]⟩ : ByteArray), (⟨#[100, 97, 110]⟩ : ByteArray), (⟨#[101, 118, 101]⟩ : ByteArray), (⟨#[102, 97, 121]⟩ : ByteArray)] : List ByteArray))) = some r := h
  clear h
  obtain ⟨y273, hy273⟩ : ∃ y_ : List ByteArray, y_ = (([(⟨#[97, 110, 110]⟩ : ByteArray), (⟨#[98, 111, 98]⟩ : ByteArray), (⟨#[99, 97, 116]⟩ : ByteArray), (⟨#[100, 97, 110]⟩ : ByteArray), (⟨#[101, 118, 101]⟩ : ByteArray), (⟨#[102, 97, 121]⟩ : ByteArray)] : List ByteArray)) := ⟨_, rfl⟩
  replace H : (some y273) = some r := by first | (rw [hy273]; with_reducible exact H) | (have H2_ := (Option.bind_some _ _).symm.trans H; rw [hy273]; with_reducible exact H2_) | (have H2_ := (Option.bind_some _ _).symm.trans H; with_reducible exact H2_) | with_reducible exact H | (rw [hy273]; exact H) | exact H
  have Ny273 := Aside0.mk hy273
  clear hy273
  obtain rfl := Option.some.inj H
  go_enter Try.func38, Try.ntmps38
  go_wp2_with (first | ((with_reducible refine gate_dst (N := 1) rfl ?_); refine Kd.R_lit Kd.string _ 9 ?hg (N := 1) ?hd (xs := ([(⟨#[97, 110, 110]⟩ : ByteArray), (⟨#[98, 111, 98]⟩ : ByteArray), (⟨#[99, 97, 116]⟩ : ByteArray), (⟨#[100, 97, 110]⟩ : ByteArray), (⟨#[101, 118, 101]⟩ : ByteArray), (⟨#[102, 97, 121]⟩ : ByteArray)] : List ByteArray)) (inner := [.string (⟨#[97, 110, 110]⟩ : ByteArray), .string (⟨#[98, 111, 98]⟩ : ByteArray), .string (⟨#[99, 97, 116]⟩ : ByteArray), .string (⟨#[100, 97, 110]⟩ : ByteArray), .string (⟨#[101, 118, 101]⟩ : ByteArray), .string (⟨#[102, 97, 121]⟩ : ByteArray)]) (ok := fun _ => True) (okp := fun _ => True) ?hr ?hp (fun _ hk => hk) trivial (Below.refl _ _) (Nat.le_refl _) (by simp) ?_; (case hd => rfl); (case hg => rfl); (case hr => first | (go_simp; done) | (go_simp; rfl)); (case hp => exact (Reps.one (show Kd.M Kd.string _ _ _ (⟨#[97, 110, 110]⟩ : ByteArray) [.string (⟨#[97, 110, 110]⟩ : ByteArray)] from rfl) (Reps.one (show Kd.M Kd.string _ _ _ (⟨#[98, 111, 98]⟩ : ByteArray) [.string (⟨#[98, 111, 98]⟩ : ByteArray)] from rfl) (Reps.one (show Kd.M Kd.string _ _ _ (⟨#[99, 97, 116]⟩ : ByteArray) [.string (⟨#[99, 97, 116]⟩ : ByteArray)] from rfl) (Reps.one (show Kd.M Kd.string _ _ _ (⟨#[100, 97, 110]⟩ : ByteArray) [.string (⟨#[100, 97, 110]⟩ : ByteArray)] from rfl) (Reps.one (show Kd.M Kd.string _ _ _ (⟨#[101, 118, 101]⟩ : ByteArray) [.string (⟨#[101, 118, 101]⟩ : ByteArray)] from rfl) (Reps.one (show Kd.M Kd.string _ _ _ (⟨#[102, 97, 121]⟩ : ByteArray) [.string (⟨#[102, 97, 121]⟩ : ByteArray)] from rfl) (Reps.none _ _)))))))); intro v274 w1 ho2 hb hg_ hnew_; clear hg_ hnew_; (first | rw [← Ny273.out] at ho2 | (simp only [Int.reduceToNat] at ho2; rw [← Ny273.out] at ho2)); have n0_ := Aside0.mk (Kd.R_lower ho2 (below_size (by repeat (first | (with_reducible first | exact HB.out | apply below_alloc | apply pw_below_drewN | apply below_drew1) | exact HB.out)))); have n1_ := Aside0.mk (below_step (by repeat (first | (with_reducible first | exact HB.out | apply below_alloc | apply pw_below_drewN | apply below_drew1) | exact HB.out)) hb); clear HB; have HO275 := n0_; have HB := n1_; clear n0_ n1_; clear hb ho2))
  go_ret
  exact ⟨_, by first | rfl | (simp [errW_none, errW_some] <;> rfl) | (simp [*, errW_none, errW_some] <;> rfl), by (with_reducible repeat (first | apply Kd.R_alloc | apply Kd.R_drewN | apply Kd.R_drew)); exact HO275.out, by repeat (first | (with_reducible first | exact HB.out | apply below_alloc | apply pw_below_drewN | apply below_drew1) | exact HB.out)⟩

/-! ### flagstonedata_Id: function 32 -/
def flagstonedata_Id.f (a0 : Int) : Option (ByteArray) := (flagstonedata_Ids.f).bind fun t276 => ((flagstonedata_Ids.f).bind fun t279 => (if (t279.length : Int) = 0 then (none) else (if 0 ≤ (Int.tmod a0 (t279.length : Int)) then (if (Int.tmod a0 (t279.length : Int)) < (t276.length : Int) then (some (rdOf ByteArray.empty t276 (Int.tmod a0 (t279.length : Int)))) else (none)) else (none))))
set_option maxHeartbeats 8000000 in
set_option maxRecDepth 100000 in
theorem flagstonedata_Id.calls (a0 : Int) (r : ByteArray) (w : World) (h : flagstonedata_Id.f a0 = some r) :
    Calls Try.prog 32 #[.int .i64 a0] w fun e w' => e = .returned (.string r) ∧ Below w.heap.size w w' := by
  have HB := Aside0.mk (Below.refl w.heap.size w)
  have H : ((flagstonedata_Ids.f).bind fun t276 => ((flagstonedata_Ids.f).bind fun t279 => (if (t279.length : Int) = 0 then (none) else (if 0 ≤ (Int.tmod a0 (t279.length : Int)) then (if (Int.tmod a0 (t279.length : Int)) < (t276.length : Int) then (some (rdOf ByteArray.empty t276 (Int.tmod a0 (t279.length : Int)))) else (none)) else (none))))) = some r := h
  clear h
  replace H := Option.bind_eq_some_iff.mp H
  obtain ⟨t276, A20, H⟩ := H
  replace H : ((flagstonedata_Ids.f).bind fun t279 => (if (t279.length : Int) = 0 then (none) else (if 0 ≤ (Int.tmod a0 (t279.length : Int)) then (if (Int.tmod a0 (t279.length : Int)) < (t276.length : Int) then (some (rdOf ByteArray.empty t276 (Int.tmod a0 (t279.length : Int)))) else (none)) else (none)))) = some r := H
  have A2 := Aside0.mk A20
  clear A20
  replace H := Option.bind_eq_some_iff.mp H
  obtain ⟨t279, A30, H⟩ := H
  replace H : (if (t279.length : Int) = 0 then (none) else (if 0 ≤ (Int.tmod a0 (t279.length : Int)) then (if (Int.tmod a0 (t279.length : Int)) < (t276.length : Int) then (some (rdOf ByteArray.empty t276 (Int.tmod a0 (t279.length : Int)))) else (none)) else (none))) = some r := H
  have A3 := Aside0.mk A30
  clear A30
  by_cases c4 : (t279.length : Int) = 0
  · rw [if_pos c4] at H
    exact absurd H (by simp)
  · rw [if_neg c4] at H
    have c4b0 : ((t279.length : Int) == 0) = false := beq_eq_false_iff_ne.mpr c4
    have c4b1 : ((t279.length : Int) != 0) = true := bne_iff_ne.mpr c4
    have c4b2 : ¬ (t279 = []) := fun h_ => c4 (by rw [h_]; rfl)
    obtain ⟨ji5, hji5⟩ : ∃ j_ : Int, (Int.tmod a0 (t279.length : Int)) = j_ := ⟨_, rfl⟩
    replace H : (if 0 ≤ (ji5) then (if (ji5) < (t276.length : Int) then (some (rdOf ByteArray.empty t276 (ji5))) else (none)) else (none)) = some r := by first | (rw [hji5] at H; exact H) | (simp only [hji5] at H ⊢; exact H)
    (try rw [hji5] at A2)
    (try rw [hji5] at A3)
    by_cases c6 : 0 ≤ (ji5)
    · rw [if_pos c6] at H
      have c6b0 : decide (0 ≤ (ji5)) = true := decide_eq_true c6
      clear c6
      by_cases c7 : (ji5) < (t276.length : Int)
      · rw [if_pos c7] at H
        have c7b0 : decide ((ji5) < (t276.length : Int)) = true := decide_eq_true c7
        clear c7
        obtain rfl := Option.some.inj H
        go_enter Try.func32, Try.ntmps32
        go_wp2_with (first | ((with_reducible refine gate_callee (f := 38) rfl ?_); refine goesL_ (some 3) rfl rfl Try.func38 (by kernel_rfl) rfl #[] rfl (by (try simp only [List.map_toArray, List.map_cons, List.map_nil]); first | done | rfl | (simp only [List.length_drop, List.length_take]; rfl)) ?_; (with_reducible refine (flagstonedata_Ids.calls  t276 _ A2.out).mono ?_); rintro e w8 ⟨v277, rfl, ho0, hb⟩; refine ⟨_, rfl, ?_⟩; have n0_ := Aside0.mk (Kd.R_lower ho0 (below_size (by repeat (first | (with_reducible first | exact HB.out | apply below_alloc | apply pw_below_drewN | apply below_drew1) | exact HB.out)))); have n1_ := Aside0.mk (below_step (by repeat (first | (with_reducible first | exact HB.out | apply below_alloc | apply pw_below_drewN | apply below_drew1) | exact HB.out)) hb); clear HB; have HO278 := n0_; have HB := n1_; clear n0_ n1_; (try clear hb); (try clear hb2); (try clear hk); (try clear hi); (try clear ho0)) | ((with_reducible refine gate_callee (f := 38) rfl ?_); refine goesL_ (some 5) rfl rfl Try.func38 (by kernel_rfl) rfl #[] rfl (by (try simp only [List.map_toArray, List.map_cons, List.map_nil]); first | done | rfl | (simp only [List.length_drop, List.length_take]; rfl)) ?_; (with_reducible refine (flagstonedata_Ids.calls  t279 _ A3.out).mono ?_); rintro e w9 ⟨v280, rfl, ho0, hb⟩; refine ⟨_, rfl, ?_⟩; have n0_ := Aside0.mk (Kd.R_elder' (by (with_reducible repeat (first | apply Kd.R_alloc | apply Kd.R_drewN | apply Kd.R_drew)); exact HO278.out) (Kd.R_base ho0) hb); have n1_ := Aside0.mk (Kd.R_lower (Kd.R_new' ho0 (Kd.R_lt (by (with_reducible repeat (first | apply Kd.R_alloc | apply Kd.R_drewN | apply Kd.R_drew)); exact HO278.out))) (below_size (by repeat (first | (with_reducible first | exact HB.out | apply below_alloc | apply pw_below_drewN | apply below_drew1) | exact HB.out)))); have n2_ := Aside0.mk (below_step (by repeat (first | (with_reducible first | exact HB.out | apply below_alloc | apply pw_below_drewN | apply below_drew1) | exact HB.out)) hb); clear HO278; clear HB; have HO278 := n0_; have HO281 := n1_; have HB := n2_; clear n0_ n1_ n2_; (try clear hb); (try clear hb2); (try clear hk); (try clear hi); (try clear ho0); obtain ⟨Ao10, co10, eo10⟩ := Kd.R_slice HO281.out; subst eo10; obtain ⟨Ao11, co11, eo11⟩ := Kd.R_slice HO278.out; subst eo11; have p282 : 0 ≤ ((ji5) : Int) := of_decide_eq_true (by first | (with_reducible assumption) | assumption); have q282 : (ji5) < (t276.length : Int) := of_decide_eq_true (by first | (with_reducible assumption) | assumption); obtain ⟨ad282, e282, hx282_0⟩ := Kd.at_string (Kd.R_reads' HO278.out).2.2 (ji5) p282 q282; cases e282; replace p282 := eq_true p282; replace q282 := eq_true q282))
        go_ret
        exact ⟨by first | rfl | (simp [errW_none, errW_some] <;> rfl) | (simp only [← hji5]; first | rfl | (simp [errW_none, errW_some] <;> rfl)) | (simp [*, errW_none, errW_some] <;> rfl), by repeat (first | (with_reducible first | exact HB.out | apply below_alloc | apply pw_below_drewN | apply below_drew1) | exact HB.out)⟩
      · rw [if_neg c7] at H
        exact absurd H (by simp)
    · rw [if_neg c6] at H
      exact absurd H (by simp)

end Go.Proofs.Ytafcnpfhihnmgaa.PA
