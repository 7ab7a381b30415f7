-- Written by a program of this seat's session (wip/tools/ownprint.py, over the kit's printer) out of the translation: functions and their contracts.
import Derived.Test.YtafcnpfhihnmgaaPA0
import Derived.Test.YtafcnpfhihnmgaaPA2
import Derived.Test.YtafcnpfhihnmgaaPA3
namespace Go.Proofs.Ytafcnpfhihnmgaa.PA
open Go.RowKit Go.Proofs.YtafcnpfhihnmgaaW.PrintWords Go.Proofs.YtafcnpfhihnmgaaW.PrintLast Go.Proofs.YtafcnpfhihnmgaaW.PrintMore
attribute [local go_sem] max2_int min2_int max_two min_two max_three min_three max_four min_four   -- for this text's walks alone
set_option linter.unusedVariables false
set_option linter.unusedSimpArgs false

/-! ### flagstonelaw40_WealthFactors: function 4 -/
mutual
def flagstonelaw40_WealthFactors.j0 : Nat → List Int → Int → Bool → Bool → Option (Bool)
  | 0, _, _, _, _ => none
  | k + 1, x3, x4, x5, x49 => if x49 = true then (some false) else ((flagstonedata_Scores.f k x3).bind fun t150 => ((some (([(⟨wrap64 (562949953421307 - (Int.tmod (wrap64 (x4)) 3)), 5, 562949953421312⟩ : S28), (⟨wrap64 (-(wrap64 (562949953421307 - (Int.tmod (wrap64 (x4)) 3)))), 5, 562949953421312⟩ : S28)] : List (S28)) : List (S28))).bind fun y153 => (if t150.length + y153.length < 5864062014805 then (flagstonelaw40_WealthFactors.l0 k x4 x5 (t150 ++ y153) 0) else (none))))
def flagstonelaw40_WealthFactors.l0 : Nat → Int → Bool → List (S28) → Int → Option (Bool)
  | 0, _, _, _, _ => none
  | k + 1, x4, x5, x18, x19 => if x19 < (x18.length : Int) then (flagstonelaw40_WealthFactors.l1 k x4 x5 x18 x19 (-1)) else (some true)
def flagstonelaw40_WealthFactors.l1 : Nat → Int → Bool → List (S28) → Int → Int → Option (Bool)
  | 0, _, _, _, _, _ => none
  | k + 1, x4, x5, x18, x19, x20 => if x20 ≤ 5 then (if 0 ≤ x19 then (if x19 < (x18.length : Int) then ((wealth_Factor.f k ((rd_T28 x18 x19).f0) ((rd_T28 x18 x19).f1) ((rd_T28 x18 x19).f2) (Int.tmod (wrap64 (x4)) 1002) x20 x5).bind fun bt160 => ((flagstoneref40_Factor.f k ((rd_T28 x18 x19).f0) ((rd_T28 x18 x19).f1) ((rd_T28 x18 x19).f2) (Int.tmod (wrap64 (x4)) 1002) x20 x5).bind fun bt163 => (if bt160.1 = bt163.1 then (if bt160.2 = bt163.2 then (if bt160.1 < (wrap64 (Int.tdiv bt160.2 2)) then (flagstonelaw40_WealthFactors.j3 k x4 x5 x18 x19 x20 true) else (flagstonelaw40_WealthFactors.j3 k x4 x5 x18 x19 x20 (decide ((wrap64 (bt160.1 - bt160.2)) > (wrap64 (Int.tdiv bt160.2 2)))))) else (flagstonelaw40_WealthFactors.j3 k x4 x5 x18 x19 x20 true)) else (flagstonelaw40_WealthFactors.j3 k x4 x5 x18 x19 x20 true)))) else (none)) else (none)) else (flagstonelaw40_WealthFactors.l0 k x4 x5 x18 (wrap64 (x19 + 1)))
def flagstonelaw40_WealthFactors.j3 : Nat → Int → Bool → List (S28) → Int → Int → Bool → Option (Bool)
  | 0, _, _, _, _, _, _ => none
  | k + 1, x4, x5, x18, x19, x20, x121 => if x121 = true then (some false) else (flagstonelaw40_WealthFactors.l1 k x4 x5 x18 x19 (wrap64 (x20 + 1)))
end
def flagstonelaw40_WealthFactors.f (k : Nat) (a0_0 : Int) (a0_1 : Int) (a0_2 : Int) (a1 : Int) (a2 : Int) (l3 : List Int) (a4 : Int) (a5 : Bool) : Option (Bool) := (flagstonelaw40_awake.f k).bind fun t144 => (if t144 = true then (if (l3.length : Int) > 100 then (some true) else ((wealth_Factor.f k a0_0 a0_1 a0_2 a1 a2 a5).bind fun bt145 => ((flagstoneref40_Factor.f k a0_0 a0_1 a0_2 a1 a2 a5).bind fun bt147 => (if bt145.1 = bt147.1 then (flagstonelaw40_WealthFactors.j0 k l3 a4 a5 (bt145.2 != bt147.2)) else (flagstonelaw40_WealthFactors.j0 k l3 a4 a5 true))))) else (some false))
theorem flagstonelaw40_WealthFactors.mono_l : ∀ k, (∀ y0 y1 y2 y3, LeO (flagstonelaw40_WealthFactors.j0 k y0 y1 y2 y3) (flagstonelaw40_WealthFactors.j0 (k + 1) y0 y1 y2 y3)) ∧ (∀ y0 y1 y2 y3, LeO (flagstonelaw40_WealthFactors.l0 k y0 y1 y2 y3) (flagstonelaw40_WealthFactors.l0 (k + 1) y0 y1 y2 y3)) ∧ (∀ y0 y1 y2 y3 y4, LeO (flagstonelaw40_WealthFactors.l1 k y0 y1 y2 y3 y4) (flagstonelaw40_WealthFactors.l1 (k + 1) y0 y1 y2 y3 y4)) ∧ (∀ y0 y1 y2 y3 y4 y5, LeO (flagstonelaw40_WealthFactors.j3 k y0 y1 y2 y3 y4 y5) (flagstonelaw40_WealthFactors.j3 (k + 1) y0 y1 y2 y3 y4 y5))
  | 0 => ⟨fun _ _ _ _ r h => by simp [flagstonelaw40_WealthFactors.j0] at h, fun _ _ _ _ r h => by simp [flagstonelaw40_WealthFactors.l0] at h, fun _ _ _ _ _ r h => by simp [flagstonelaw40_WealthFactors.l1] at h, fun _ _ _ _ _ _ r h => by simp [flagstonelaw40_WealthFactors.j3] at h⟩
  | k + 1 => by
    obtain ⟨ih0, ih1, ih2, ih3⟩ := flagstonelaw40_WealthFactors.mono_l k
    refine ⟨?_, ?_, ?_, ?_⟩
    · intro y0 y1 y2 y3
      unfold flagstonelaw40_WealthFactors.j0
      repeat' first
      | (with_reducible exact ih0 _ _ _ _)
      | (with_reducible exact ih1 _ _ _ _)
      | (with_reducible exact ih2 _ _ _ _ _)
      | (with_reducible exact ih3 _ _ _ _ _ _)
      | (with_reducible exact flagstonedata_Scores.mono _ _)
      | (with_reducible exact flagstonelaw40_awake.mono _)
      | (with_reducible exact flagstoneref40_Factor.mono _ _ _ _ _ _ _)
      | (with_reducible exact wealth_Factor.mono _ _ _ _ _ _ _)
      | (with_reducible exact LeO.refl _)
      | (with_reducible exact LeO.none _)
      | (with_reducible refine LeO.ite ?_ ?_)
      | (with_reducible refine LeO.bind ?_ (fun _ => ?_))
      | exact ih0 _ _ _ _
      | exact ih1 _ _ _ _
      | exact ih2 _ _ _ _ _
      | exact ih3 _ _ _ _ _ _
      | exact flagstonedata_Scores.mono _ _
      | exact flagstonelaw40_awake.mono _
      | exact flagstoneref40_Factor.mono _ _ _ _ _ _ _
      | exact wealth_Factor.mono _ _ _ _ _ _ _
      | exact LeO.none _
      | refine LeO.ite ?_ ?_
      | refine LeO.bind ?_ (fun _ => ?_)
    · intro y0 y1 y2 y3
      unfold flagstonelaw40_WealthFactors.l0
      repeat' first
      | (with_reducible exact ih0 _ _ _ _)
      | (with_reducible exact ih1 _ _ _ _)
      | (with_reducible exact ih2 _ _ _ _ _)
      | (with_reducible exact ih3 _ _ _ _ _ _)
      | (with_reducible exact flagstonedata_Scores.mono _ _)
      | (with_reducible exact flagstonelaw40_awake.mono _)
      | (with_reducible exact flagstoneref40_Factor.mono _ _ _ _ _ _ _)
      | (with_reducible exact wealth_Factor.mono _ _ _ _ _ _ _)
      | (with_reducible exact LeO.refl _)
      | (with_reducible exact LeO.none _)
      | (with_reducible refine LeO.ite ?_ ?_)
      | (with_reducible refine LeO.bind ?_ (fun _ => ?_))
      | exact ih0 _ _ _ _
      | exact ih1 _ _ _ _
      | exact ih2 _ _ _ _ _
      | exact ih3 _ _ _ _ _ _
      | exact flagstonedata_Scores.mono _ _
      | exact flagstonelaw40_awake.mono _
      | exact flagstoneref40_Factor.mono _ _ _ _ _ _ _
      | exact wealth_Factor.mono _ _ _ _ _ _ _
      | exact LeO.none _
      | refine LeO.ite ?_ ?_
      | refine LeO.bind ?_ (fun _ => ?_)
    · intro y0 y1 y2 y3 y4
      unfold flagstonelaw40_WealthFactors.l1
      repeat' first
      | (with_reducible exact ih0 _ _ _ _)
      | (with_reducible exact ih1 _ _ _ _)
      | (with_reducible exact ih2 _ _ _ _ _)
      | (with_reducible exact ih3 _ _ _ _ _ _)
      | (with_reducible exact flagstonedata_Scores.mono _ _)
      | (with_reducible exact flagstonelaw40_awake.mono _)
      | (with_reducible exact flagstoneref40_Factor.mono _ _ _ _ _ _ _)
      | (with_reducible exact wealth_Factor.mono _ _ _ _ _ _ _)
      | (with_reducible exact LeO.refl _)
      | (with_reducible exact LeO.none _)
      | (with_reducible refine LeO.ite ?_ ?_)
      | (with_reducible refine LeO.bind ?_ (fun _ => ?_))
      | exact ih0 _ _ _ _
      | exact ih1 _ _ _ _
      | exact ih2 _ _ _ _ _
      | exact ih3 _ _ _ _ _ _
      | exact flagstonedata_Scores.mono _ _
      | exact flagstonelaw40_awake.mono _
      | exact flagstoneref40_Factor.mono _ _ _ _ _ _ _
      | exact wealth_Factor.mono _ _ _ _ _ _ _
      | exact LeO.none _
      | refine LeO.ite ?_ ?_
      | refine LeO.bind ?_ (fun _ => ?_)
    · intro y0 y1 y2 y3 y4 y5
      unfold flagstonelaw40_WealthFactors.j3
      repeat' first
      | (with_reducible exact ih0 _ _ _ _)
      | (with_reducible exact ih1 _ _ _ _)
      | (with_reducible exact ih2 _ _ _ _ _)
      | (with_reducible exact ih3 _ _ _ _ _ _)
      | (with_reducible exact flagstonedata_Scores.mono _ _)
      | (with_reducible exact flagstonelaw40_awake.mono _)
      | (with_reducible exact flagstoneref40_Factor.mono _ _ _ _ _ _ _)
      | (with_reducible exact wealth_Factor.mono _ _ _ _ _ _ _)
      | (with_reducible exact LeO.refl _)
      | (with_reducible exact LeO.none _)
      | (with_reducible refine LeO.ite ?_ ?_)
      | (with_reducible refine LeO.bind ?_ (fun _ => ?_))
      | exact ih0 _ _ _ _
      | exact ih1 _ _ _ _
      | exact ih2 _ _ _ _ _
      | exact ih3 _ _ _ _ _ _
      | exact flagstonedata_Scores.mono _ _
      | exact flagstonelaw40_awake.mono _
      | exact flagstoneref40_Factor.mono _ _ _ _ _ _ _
      | exact wealth_Factor.mono _ _ _ _ _ _ _
      | exact LeO.none _
      | refine LeO.ite ?_ ?_
      | refine LeO.bind ?_ (fun _ => ?_)
theorem flagstonelaw40_WealthFactors.mono : ∀ a0 a1 a2 a3 a4 a5 a6 a7 k, LeO (flagstonelaw40_WealthFactors.f k a0 a1 a2 a3 a4 a5 a6 a7) (flagstonelaw40_WealthFactors.f (k + 1) a0 a1 a2 a3 a4 a5 a6 a7) := by
  intro a0 a1 a2 a3 a4 a5 a6 a7 k
  obtain ⟨ih0, ih1, ih2, ih3⟩ := flagstonelaw40_WealthFactors.mono_l k
  unfold flagstonelaw40_WealthFactors.f
  repeat' first
      | (with_reducible exact ih0 _ _ _ _)
      | (with_reducible exact ih1 _ _ _ _)
      | (with_reducible exact ih2 _ _ _ _ _)
      | (with_reducible exact ih3 _ _ _ _ _ _)
      | (with_reducible exact flagstonedata_Scores.mono _ _)
      | (with_reducible exact flagstonelaw40_awake.mono _)
      | (with_reducible exact flagstoneref40_Factor.mono _ _ _ _ _ _ _)
      | (with_reducible exact wealth_Factor.mono _ _ _ _ _ _ _)
      | (with_reducible exact LeO.refl _)
      | (with_reducible exact LeO.none _)
      | (with_reducible refine LeO.ite ?_ ?_)
      | (with_reducible refine LeO.bind ?_ (fun _ => ?_))
      | exact ih0 _ _ _ _
      | exact ih1 _ _ _ _
      | exact ih2 _ _ _ _ _
      | exact ih3 _ _ _ _ _ _
      | exact flagstonedata_Scores.mono _ _
      | exact flagstonelaw40_awake.mono _
      | exact flagstoneref40_Factor.mono _ _ _ _ _ _ _
      | exact wealth_Factor.mono _ _ _ _ _ _ _
      | exact LeO.none _
      | refine LeO.ite ?_ ?_
      | refine LeO.bind ?_ (fun _ => ?_)
def flagstonelaw40_WealthFactors.T10 : Bool × List (List Nat × List Nat) := (true, [([], []), ([0], [0]), ([], []), ([], []), ([3], [3]), ([4], [4]), ([5], [5]), ([2, 6], [2, 6]), ([1, 7, 1], [1, 7]), ([8, 8, 0, 1, 2, 3, 4, 5, 6, 7, 8], [8])])
def flagstonelaw40_WealthFactors.B10 : List Nat := [0, 1, 0, 0, 8, 24, 56, 124, 255, 511]
theorem flagstonelaw40_WealthFactors.tab10 : rtab .any (opsOf Try.f4 10) = flagstonelaw40_WealthFactors.T10 := by kernel_rfl
theorem flagstonelaw40_WealthFactors.bits10 : waitsOk flagstonelaw40_WealthFactors.T10.2 flagstonelaw40_WealthFactors.B10 = true := by kernel_rfl
set_option maxHeartbeats 8000000 in
set_option maxRecDepth 100000 in
theorem flagstonelaw40_WealthFactors.calls (k : Nat) (a0_0 : Int) (a0_1 : Int) (a0_2 : Int) (a1 : Int) (a2 : Int) (A3 : Option Addr) (c3 : Nat) (l3 : List Int) (a4 : Int) (a5 : Bool) (r : Bool) (w : World) (hr3 : Kd.C (Kd.int .u8) w A3 l3.length l3) (hc3 : l3.length ≤ c3) (h : flagstonelaw40_WealthFactors.f k a0_0 a0_1 a0_2 a1 a2 l3 a4 a5 = some r) :
    Calls Try.prog 4 #[.agg #[.int .i64 a0_0, .int .i64 a0_1, .int .i64 a0_2], .int .i64 a1, .int .i64 a2, .slice A3 l3.length c3, .int .i16 a4, .bool a5] w fun e w' => e = .returned (.bool r) ∧ Below w.heap.size w w' := by
  have hu28 := Try.underlying28
  have HR3 := Aside0.mk hr3
  have HC3 := Aside0.mk hc3
  clear hr3 hc3
  have HB := Aside0.mk (Below.refl w.heap.size w)
  have H : ((flagstonelaw40_awake.f k).bind fun t144 => (if t144 = true then (if (l3.length : Int) > 100 then (some true) else ((wealth_Factor.f k a0_0 a0_1 a0_2 a1 a2 a5).bind fun bt145 => ((flagstoneref40_Factor.f k a0_0 a0_1 a0_2 a1 a2 a5).bind fun bt147 => (if bt145.1 = bt147.1 then (flagstonelaw40_WealthFactors.j0 k l3 a4 a5 (bt145.2 != bt147.2)) else (flagstonelaw40_WealthFactors.j0 k l3 a4 a5 true))))) else (some false))) = some r := h
  clear h
  replace H := Option.bind_eq_some_iff.mp H
  obtain ⟨t144, A70, H⟩ := H
  replace H : (if t144 = true then (if (l3.length : Int) > 100 then (some true) else ((wealth_Factor.f k a0_0 a0_1 a0_2 a1 a2 a5).bind fun bt145 => ((flagstoneref40_Factor.f k a0_0 a0_1 a0_2 a1 a2 a5).bind fun bt147 => (if bt145.1 = bt147.1 then (flagstonelaw40_WealthFactors.j0 k l3 a4 a5 (bt145.2 != bt147.2)) else (flagstonelaw40_WealthFactors.j0 k l3 a4 a5 true))))) else (some false)) = some r := H
  have A7 := Aside0.mk A70
  clear A70
  by_cases c8 : t144 = true
  · subst c8
    have H1 : (if (l3.length : Int) > 100 then (some true) else ((wealth_Factor.f k a0_0 a0_1 a0_2 a1 a2 a5).bind fun bt145 => ((flagstoneref40_Factor.f k a0_0 a0_1 a0_2 a1 a2 a5).bind fun bt147 => (if bt145.1 = bt147.1 then (flagstonelaw40_WealthFactors.j0 k l3 a4 a5 (bt145.2 != bt147.2)) else (flagstonelaw40_WealthFactors.j0 k l3 a4 a5 true))))) = some r := by rw [if_pos rfl] at H; exact H
    clear H
    have H := H1
    clear H1
    by_cases c9 : (l3.length : Int) > 100
    · rw [if_pos c9] at H
      have c9b0 : decide (100 < (l3.length : Int)) = true := decide_eq_true c9
      have c9b1 : decide (100 < l3.length) = true := decide_eq_true (by omega)
      clear c9
      obtain rfl := Option.some.inj H
      go_enter Try.func4, Try.ntmps4
      go_wp2_with (first | ((with_reducible refine gate_dst (N := 6) rfl ?_); refine box_event ?hg (N := 6) ?hd (cs := #[.int .i64 a0_0, .int .i64 a0_1, .int .i64 a0_2]) (t := 28) ?hr ?_; (case hd => rfl); (case hg => rfl); (case hr => first | (go_simp; done) | (go_simp; rfl)); intro gb143 hg w10 hbox hb; have n0_ := Aside0.mk (below_step (by repeat (first | (with_reducible first | exact HB.out | apply below_alloc | apply pw_below_drewN | apply below_drew1) | exact HB.out)) hb); have n1_ := Aside0.mk (hbox); have n2_ := Aside0.mk ((by rw [hg]; exact (below_size (by repeat (first | (with_reducible first | exact HB.out | apply below_alloc | apply pw_below_drewN | apply below_drew1) | exact HB.out))) : w.heap.size ≤ gb143)); have n3_ := Aside0.mk ((by rw [hg]; exact (below_size (by repeat (first | (with_reducible first | exact HB.out | apply below_alloc | apply pw_below_drewN | apply below_drew1) | exact HB.out))) : w.heap.size ≤ gb143)); clear HB; have HB := n0_; have BK143 := n1_; have GW143 := n2_; have GE143 := n3_; clear n0_ n1_ n2_ n3_; clear hb hbox hg) | ((with_reducible refine gate_callee (f := 10) rfl ?_); refine goesL_ (some 21) rfl rfl Try.func10 (by kernel_rfl) rfl #[] rfl (by (try simp only [List.map_toArray, List.map_cons, List.map_nil]); first | done | rfl | (simp only [List.length_drop, List.length_take]; rfl)) ?_; (with_reducible refine (flagstonelaw40_awake.calls k  true _ A7.out).mono ?_); rintro e w11 ⟨rfl, hb⟩; refine ⟨_, rfl, ?_⟩; have n0_ := Aside0.mk (blk_below (g := gb143) (o := .cells #[.int .i64 a0_0, .int .i64 a0_1, .int .i64 a0_2] 28 (0, 0)) (by (with_reducible repeat (first | refine blk_drewN ?_ _ | refine blk_drew ?_ | refine blk_alloc ?_ _)); exact BK143.out) hb); have n1_ := Aside0.mk (below_step (by repeat (first | (with_reducible first | exact HB.out | apply below_alloc | apply pw_below_drewN | apply below_drew1 | refine below_set ?_ GE143.out) | exact HB.out)) hb); clear BK143; clear HB; have BK143 := n0_; have HB := n1_; clear n0_ n1_; (try clear hb); (try clear hb2); (try clear hk); (try clear hi)))
      go_ret
      exact ⟨by first | rfl | (simp [errW_none, errW_some] <;> rfl) | (simp [*, errW_none, errW_some] <;> rfl), by repeat (first | (with_reducible first | exact HB.out | apply below_alloc | apply pw_below_drewN | apply below_drew1 | refine below_set ?_ GE143.out) | exact HB.out)⟩
    · rw [if_neg c9] at H
      have c9b0 : decide (100 < (l3.length : Int)) = false := decide_eq_false c9
      have c9b1 : decide (100 < l3.length) = false := decide_eq_false (by omega)
      clear c9
      replace H := Option.bind_eq_some_iff.mp H
      obtain ⟨⟨t145, t146⟩, A120, H⟩ := H
      replace H : ((flagstoneref40_Factor.f k a0_0 a0_1 a0_2 a1 a2 a5).bind fun bt147 => (if t145 = bt147.1 then (flagstonelaw40_WealthFactors.j0 k l3 a4 a5 (t146 != bt147.2)) else (flagstonelaw40_WealthFactors.j0 k l3 a4 a5 true))) = some r := H
      have A12 := Aside0.mk A120
      clear A120
      replace H := Option.bind_eq_some_iff.mp H
      obtain ⟨⟨t147, t148⟩, A130, H⟩ := H
      replace H : (if t145 = t147 then (flagstonelaw40_WealthFactors.j0 k l3 a4 a5 (t146 != t148)) else (flagstonelaw40_WealthFactors.j0 k l3 a4 a5 true)) = some r := H
      have A13 := Aside0.mk A130
      clear A130
      have HC14 := Aside0.mk H
      clear H
      go_enter Try.func4, Try.ntmps4
      go_upto_region 7 with (first | ((with_reducible refine gate_dst (N := 6) rfl ?_); refine box_event ?hg (N := 6) ?hd (cs := #[.int .i64 a0_0, .int .i64 a0_1, .int .i64 a0_2]) (t := 28) ?hr ?_; (case hd => rfl); (case hg => rfl); (case hr => first | (go_simp; done) | (go_simp; rfl)); intro gb143 hg w15 hbox hb; have n0_ := Aside0.mk (below_step (by repeat (first | (with_reducible first | exact HB.out | apply below_alloc | apply pw_below_drewN | apply below_drew1) | exact HB.out)) hb); have n1_ := Aside0.mk (hbox); have n2_ := Aside0.mk ((by rw [hg]; exact (below_size (by repeat (first | (with_reducible first | exact HB.out | apply below_alloc | apply pw_below_drewN | apply below_drew1) | exact HB.out))) : w.heap.size ≤ gb143)); have n3_ := Aside0.mk ((by rw [hg]; exact (below_size (by repeat (first | (with_reducible first | exact HB.out | apply below_alloc | apply pw_below_drewN | apply below_drew1) | exact HB.out))) : w.heap.size ≤ gb143)); clear HB; have HB := n0_; have BK143 := n1_; have GW143 := n2_; have GE143 := n3_; clear n0_ n1_ n2_ n3_; clear hb hbox hg) | ((with_reducible refine gate_callee (f := 10) rfl ?_); refine goesL_ (some 21) rfl rfl Try.func10 (by kernel_rfl) rfl #[] rfl (by (try simp only [List.map_toArray, List.map_cons, List.map_nil]); first | done | rfl | (simp only [List.length_drop, List.length_take]; rfl)) ?_; (with_reducible refine (flagstonelaw40_awake.calls k  true _ A7.out).mono ?_); rintro e w16 ⟨rfl, hb⟩; refine ⟨_, rfl, ?_⟩; have n0_ := Aside0.mk (blk_below (g := gb143) (o := .cells #[.int .i64 a0_0, .int .i64 a0_1, .int .i64 a0_2] 28 (0, 0)) (by (with_reducible repeat (first | refine blk_drewN ?_ _ | refine blk_drew ?_ | refine blk_alloc ?_ _)); exact BK143.out) hb); have n1_ := Aside0.mk (below_step (by repeat (first | (with_reducible first | exact HB.out | apply below_alloc | apply pw_below_drewN | apply below_drew1 | refine below_set ?_ GE143.out) | exact HB.out)) hb); clear BK143; clear HB; have BK143 := n0_; have HB := n1_; clear n0_ n1_; (try clear hb); (try clear hb2); (try clear hk); (try clear hi); have hcz17_0 : w16.cell? ⟨gb143, 0, none⟩ = some (.int .i64 a0_0) := (blk_cell BK143.out 0).trans rfl; have hcz17_1 : w16.cell? ⟨gb143, 1, none⟩ = some (.int .i64 a0_1) := (blk_cell BK143.out 1).trans rfl; have hcz17_2 : w16.cell? ⟨gb143, 2, none⟩ = some (.int .i64 a0_2) := (blk_cell BK143.out 2).trans rfl; have hfz17_0 := blk_frozen BK143.out 0; have hfz17_1 := blk_frozen BK143.out 1; have hfz17_2 := blk_frozen BK143.out 2) | ((with_reducible refine gate_callee (f := 13) rfl ?_); refine goesL_ (some 31) rfl rfl Try.func13 (by kernel_rfl) rfl #[.agg #[.int .i64 a0_0, .int .i64 a0_1, .int .i64 a0_2], .int .i64 a1, .int .i64 a2, .bool a5] rfl (by (try simp only [List.map_toArray, List.map_cons, List.map_nil]); first | done | rfl | (simp only [List.length_drop, List.length_take]; rfl)) ?_; (with_reducible refine (wealth_Factor.calls k a0_0 a0_1 a0_2 a1 a2 a5 t145 t146 _ A12.out).mono ?_); rintro e w18 ⟨rfl, hb⟩; refine ⟨_, rfl, ?_⟩; have n0_ := Aside0.mk (blk_below (g := gb143) (o := .cells #[.int .i64 a0_0, .int .i64 a0_1, .int .i64 a0_2] 28 (0, 0)) (by (with_reducible repeat (first | refine blk_drewN ?_ _ | refine blk_drew ?_ | refine blk_alloc ?_ _)); exact BK143.out) hb); have n1_ := Aside0.mk (below_step (by repeat (first | (with_reducible first | exact HB.out | apply below_alloc | apply pw_below_drewN | apply below_drew1 | refine below_set ?_ GE143.out) | exact HB.out)) hb); clear BK143; clear HB; have BK143 := n0_; have HB := n1_; clear n0_ n1_; (try clear hb); (try clear hb2); (try clear hk); (try clear hi); have hcz19_0 : w18.cell? ⟨gb143, 0, none⟩ = some (.int .i64 a0_0) := (blk_cell BK143.out 0).trans rfl; have hcz19_1 : w18.cell? ⟨gb143, 1, none⟩ = some (.int .i64 a0_1) := (blk_cell BK143.out 1).trans rfl; have hcz19_2 : w18.cell? ⟨gb143, 2, none⟩ = some (.int .i64 a0_2) := (blk_cell BK143.out 2).trans rfl; have hfz19_0 := blk_frozen BK143.out 0; have hfz19_1 := blk_frozen BK143.out 1; have hfz19_2 := blk_frozen BK143.out 2) | ((with_reducible refine gate_callee (f := 14) rfl ?_); refine goesL_ (some 39) rfl rfl Try.func14 (by kernel_rfl) rfl #[.agg #[.int .i64 a0_0, .int .i64 a0_1, .int .i64 a0_2], .int .i64 a1, .int .i64 a2, .bool a5] rfl (by (try simp only [List.map_toArray, List.map_cons, List.map_nil]); first | done | rfl | (simp only [List.length_drop, List.length_take]; rfl)) ?_; (with_reducible refine (flagstoneref40_Factor.calls k a0_0 a0_1 a0_2 a1 a2 a5 t147 t148 _ A13.out).mono ?_); rintro e w20 ⟨rfl, hb⟩; refine ⟨_, rfl, ?_⟩; have n0_ := Aside0.mk (blk_below (g := gb143) (o := .cells #[.int .i64 a0_0, .int .i64 a0_1, .int .i64 a0_2] 28 (0, 0)) (by (with_reducible repeat (first | refine blk_drewN ?_ _ | refine blk_drew ?_ | refine blk_alloc ?_ _)); exact BK143.out) hb); have n1_ := Aside0.mk (below_step (by repeat (first | (with_reducible first | exact HB.out | apply below_alloc | apply pw_below_drewN | apply below_drew1 | refine below_set ?_ GE143.out) | exact HB.out)) hb); clear BK143; clear HB; have BK143 := n0_; have HB := n1_; clear n0_ n1_; (try clear hb); (try clear hb2); (try clear hk); (try clear hi)))
      (try simp only [Act.put, List.setIfInBounds_toArray, List.set_cons_zero, List.set_cons_succ])
      go_cut [49] (fun v49 wc => ∃ (kq : Nat) (x49_13 : Bool), v49 = .bool x49_13 ∧ Aside0 (flagstonelaw40_WealthFactors.j0 kq l3 a4 a5 x49_13 = some r) ∧ Aside0 (kq ≤ k) ∧ Aside0 (wc.heap[gb143]? = some (.cells #[.int .i64 a0_0, .int .i64 a0_1, .int .i64 a0_2] 28 (0, 0))) ∧ Aside0 (Below w.heap.size w wc))
      case first =>
        have H := HC14.out
        clear HC14
        by_cases c21 : t145 = t147
        · rw [if_pos c21] at H
          have c21b0 : (t145 == t147) = true := beq_iff_eq.mpr c21
          have c21b1 : (t145 != t147) = false := bne_eq_false_iff_eq.mpr c21
          clear c21
          (first | rw [c21b0] | (simp only [i64_w, i32_w]; rw [c21b0]) | skip)
          have H' := Aside0.mk H
          clear H
          go_wp2
          go_meet
          case rel => exact ⟨_, ((t146 != t148)), (by first | rfl | (simp; done) | (simp [*]; done) | exact congrArg (Value.int _) (by unfold wrap64; omega)), H', ⟨by first | omega | exact Nat.le_refl _⟩, ⟨by (with_reducible repeat (first | refine blk_drewN ?_ _ | refine blk_drew ?_ | refine blk_alloc ?_ _)); exact BK143.out⟩, ⟨by repeat (first | (with_reducible first | exact HB.out | apply below_alloc | apply pw_below_drewN | apply below_drew1 | refine below_set ?_ GE143.out) | exact HB.out)⟩⟩
        · rw [if_neg c21] at H
          have c21b0 : (t145 == t147) = false := beq_eq_false_iff_ne.mpr c21
          have c21b1 : (t145 != t147) = true := bne_iff_ne.mpr c21
          (first | rw [c21b0] | (simp only [i64_w, i32_w]; rw [c21b0]) | skip)
          have H' := Aside0.mk H
          clear H
          go_wp2
          go_meet
          case rel => exact ⟨_, (true), (by first | rfl | (simp; done) | (simp [*]; done) | exact congrArg (Value.int _) (by unfold wrap64; omega)), H', ⟨by first | omega | exact Nat.le_refl _⟩, ⟨by (with_reducible repeat (first | refine blk_drewN ?_ _ | refine blk_drew ?_ | refine blk_alloc ?_ _)); exact BK143.out⟩, ⟨by repeat (first | (with_reducible first | exact HB.out | apply below_alloc | apply pw_below_drewN | apply below_drew1 | refine below_set ?_ GE143.out) | exact HB.out)⟩⟩
      case rest =>
        clear HC14
        try clear c1
        try clear c2
        try clear p2
        try clear c3
        try clear c4
        try clear p6
        try clear c8
        try clear c9
        try clear c9b0
        try clear c9b1
        try clear c10
        try clear c13
        try clear c14
        try clear c21
        try clear c21b0
        try clear c21b1
        try clear hcz17_0
        try clear hcz17_1
        try clear hcz17_2
        try clear hcz19_0
        try clear hcz19_1
        try clear hcz19_2
        try clear hfz17_0
        try clear hfz17_1
        try clear hfz17_2
        try clear hfz19_0
        try clear hfz19_1
        try clear hfz19_2
        obtain ⟨kq, x49_13, rfl, HA, HJ13, BK143, HB⟩ := hcut
        cases kq with
        | zero => exact absurd HA.out (by simp [flagstonelaw40_WealthFactors.j0])
        | succ kj13 =>
          have H := HA.out
          clear HA
          simp only [flagstonelaw40_WealthFactors.j0] at H
          by_cases c22 : x49_13 = true
          · subst c22
            have H1 : (some false) = some r := by rw [if_pos rfl] at H; exact H
            clear H
            have H := H1
            clear H1
            obtain rfl := Option.some.inj H
            go_wp2
            go_ret
            exact ⟨by first | rfl | (simp [errW_none, errW_some] <;> rfl) | (simp [*, errW_none, errW_some] <;> rfl), by repeat (first | (with_reducible first | exact HB.out | apply below_alloc | apply pw_below_drewN | apply below_drew1 | refine below_set ?_ GE143.out) | exact HB.out)⟩
          · replace c22 := Bool.eq_false_iff.mpr c22
            subst c22
            have H1 : ((flagstonedata_Scores.f kj13 l3).bind fun t150 => ((some (([(⟨wrap64 (562949953421307 - (Int.tmod (wrap64 (a4)) 3)), 5, 562949953421312⟩ : S28), (⟨wrap64 (-(wrap64 (562949953421307 - (Int.tmod (wrap64 (a4)) 3)))), 5, 562949953421312⟩ : S28)] : List (S28)) : List (S28))).bind fun y153 => (if t150.length + y153.length < 5864062014805 then (flagstonelaw40_WealthFactors.l0 kj13 a4 a5 (t150 ++ y153) 0) else (none)))) = some r := by rw [if_neg (show ¬ (false = true) by decide)] at H; exact H
            clear H
            have H := H1
            clear H1
            replace H := Option.bind_eq_some_iff.mp H
            obtain ⟨t150, A230, H⟩ := H
            replace H : ((some (([(⟨wrap64 (562949953421307 - (Int.tmod (wrap64 (a4)) 3)), 5, 562949953421312⟩ : S28), (⟨wrap64 (-(wrap64 (562949953421307 - (Int.tmod (wrap64 (a4)) 3)))), 5, 562949953421312⟩ : S28)] : List (S28)) : List (S28))).bind fun y153 => (if t150.length + y153.length < 5864062014805 then (flagstonelaw40_WealthFactors.l0 kj13 a4 a5 (t150 ++ y153) 0) else (none))) = some r := H
            have A23 := Aside0.mk A230
            clear A230
            obtain ⟨y153, hy153⟩ : ∃ y_ : List (S28), y_ = (([(⟨wrap64 (562949953421307 - (Int.tmod (wrap64 (a4)) 3)), 5, 562949953421312⟩ : S28), (⟨wrap64 (-(wrap64 (562949953421307 - (Int.tmod (wrap64 (a4)) 3)))), 5, 562949953421312⟩ : S28)] : List (S28))) := ⟨_, rfl⟩
            replace H : (if t150.length + y153.length < 5864062014805 then (flagstonelaw40_WealthFactors.l0 kj13 a4 a5 (t150 ++ y153) 0) else (none)) = some r := by first | (rw [hy153]; with_reducible exact H) | (have H2_ := (Option.bind_some _ _).symm.trans H; rw [hy153]; with_reducible exact H2_) | (have H2_ := (Option.bind_some _ _).symm.trans H; with_reducible exact H2_) | with_reducible exact H | (rw [hy153]; exact H) | exact H
            have Ny153 := Aside0.mk hy153
            clear hy153
            by_cases c24 : t150.length + y153.length < 5864062014805
            · rw [if_pos c24] at H
              have LMc24 := Aside0.mk c24
              clear c24
              obtain ⟨y156, hy156⟩ : ∃ y_ : List (S28), y_ = (t150 ++ y153) := ⟨_, rfl⟩
              replace H : (flagstonelaw40_WealthFactors.l0 kj13 a4 a5 y156 0) = some r := by first | (rw [hy156]; with_reducible exact H) | (have H2_ := (Option.bind_some _ _).symm.trans H; rw [hy156]; with_reducible exact H2_) | (have H2_ := (Option.bind_some _ _).symm.trans H; with_reducible exact H2_) | with_reducible exact H | (rw [hy156]; exact H) | exact H
              have Ny156 := Aside0.mk hy156
              clear hy156
              have H' := Aside0.mk H
              clear H
              try go_wp2_with (first | ((with_reducible refine gate_dst (N := 17) rfl ?_); refine box_event ?hg (N := 17) ?hd (cs := #[.int .i64 0, .int .i64 0, .int .i64 0]) (t := 28) ?hr ?_; (case hd => rfl); (case hg => rfl); (case hr => first | (go_simp; done) | (go_simp; rfl)); intro gb149 hg w25 hbox hb; have n0_ := Aside0.mk (blk_below (g := gb143) (o := .cells #[.int .i64 a0_0, .int .i64 a0_1, .int .i64 a0_2] 28 (0, 0)) (by (with_reducible repeat (first | refine blk_drewN ?_ _ | refine blk_drew ?_ | refine blk_alloc ?_ _)); exact BK143.out) hb); have n1_ := Aside0.mk (below_step (by repeat (first | (with_reducible first | exact HB.out | apply below_alloc | apply pw_below_drewN | apply below_drew1 | refine below_set ?_ GE143.out) | exact HB.out)) hb); have n2_ := Aside0.mk (hbox); have n3_ := Aside0.mk ((by rw [hg]; exact (below_size (by repeat (first | (with_reducible first | exact HB.out | apply below_alloc | apply pw_below_drewN | apply below_drew1 | refine below_set ?_ GE143.out) | exact HB.out))) : w.heap.size ≤ gb149)); have n4_ := Aside0.mk ((by rw [hg]; exact (below_size (by repeat (first | (with_reducible first | exact HB.out | apply below_alloc | apply pw_below_drewN | apply below_drew1 | refine below_set ?_ GE143.out) | exact HB.out))) : w.heap.size ≤ gb149)); have n5_ := Aside0.mk ((by rw [hg]; exact Nat.ne_of_lt (blk_lt (g := gb143) (o := .cells #[.int .i64 a0_0, .int .i64 a0_1, .int .i64 a0_2] 28 (0, 0)) (by (with_reducible repeat (first | refine blk_drewN ?_ _ | refine blk_drew ?_ | refine blk_alloc ?_ _)); exact BK143.out)) : gb143 ≠ gb149)); have n6_ := Aside0.mk ((by rw [hg]; exact Nat.ne_of_gt (blk_lt (g := gb143) (o := .cells #[.int .i64 a0_0, .int .i64 a0_1, .int .i64 a0_2] 28 (0, 0)) (by (with_reducible repeat (first | refine blk_drewN ?_ _ | refine blk_drew ?_ | refine blk_alloc ?_ _)); exact BK143.out)) : gb149 ≠ gb143)); clear BK143; clear HB; have BK143 := n0_; have HB := n1_; have BK149 := n2_; have GW149 := n3_; have GE149 := n4_; have NB143_149 := n5_; have NB149_143 := n6_; clear n0_ n1_ n2_ n3_ n4_ n5_ n6_; clear hb hbox hg; have hnb26 := NB149_143.out; have hnc26 := NB143_149.out; have hcz27_0 : w25.cell? ⟨gb149, 0, none⟩ = some (.int .i64 0) := (blk_cell BK149.out 0).trans rfl; have hcz27_1 : w25.cell? ⟨gb149, 1, none⟩ = some (.int .i64 0) := (blk_cell BK149.out 1).trans rfl; have hcz27_2 : w25.cell? ⟨gb149, 2, none⟩ = some (.int .i64 0) := (blk_cell BK149.out 2).trans rfl; have hfz27_0 := blk_frozen BK149.out 0; have hfz27_1 := blk_frozen BK149.out 1; have hfz27_2 := blk_frozen BK149.out 2))
              have n0_ : Aside0 ((((w25.setCell ⟨gb149, 0, none⟩ (.int .i64 (wrap64 (562949953421307 - (Int.tmod (wrap64 (a4)) 3))))).setCell ⟨gb149, 1, none⟩ (.int .i64 5)).setCell ⟨gb149, 2, none⟩ (.int .i64 562949953421312)).heap[gb143]? = some (.cells #[.int .i64 a0_0, .int .i64 a0_1, .int .i64 a0_2] 28 (0, 0))) := ⟨by (with_reducible repeat (first | refine blk_drewN ?_ _ | refine blk_drew ?_ | refine blk_alloc ?_ _)); refine blk_far ?_ NB143_149.out _; (with_reducible repeat (first | refine blk_drewN ?_ _ | refine blk_drew ?_ | refine blk_alloc ?_ _)); refine blk_far ?_ NB143_149.out _; (with_reducible repeat (first | refine blk_drewN ?_ _ | refine blk_drew ?_ | refine blk_alloc ?_ _)); refine blk_far ?_ NB143_149.out _; (with_reducible repeat (first | refine blk_drewN ?_ _ | refine blk_drew ?_ | refine blk_alloc ?_ _)); exact BK143.out⟩
              have n1_ : Aside0 ((((w25.setCell ⟨gb149, 0, none⟩ (.int .i64 (wrap64 (562949953421307 - (Int.tmod (wrap64 (a4)) 3))))).setCell ⟨gb149, 1, none⟩ (.int .i64 5)).setCell ⟨gb149, 2, none⟩ (.int .i64 562949953421312)).heap[gb149]? = some (.cells #[.int .i64 (wrap64 (562949953421307 - (Int.tmod (wrap64 (a4)) 3))), .int .i64 5, .int .i64 562949953421312] 28 (0, 0))) := ⟨by (with_reducible repeat (first | refine blk_drewN ?_ _ | refine blk_drew ?_ | refine blk_alloc ?_ _)); refine blk_put (cs := #[.int .i64 (wrap64 (562949953421307 - (Int.tmod (wrap64 (a4)) 3))), .int .i64 5, .int .i64 0]) ?_ 2 _ rfl; (with_reducible repeat (first | refine blk_drewN ?_ _ | refine blk_drew ?_ | refine blk_alloc ?_ _)); refine blk_put (cs := #[.int .i64 (wrap64 (562949953421307 - (Int.tmod (wrap64 (a4)) 3))), .int .i64 0, .int .i64 0]) ?_ 1 _ rfl; (with_reducible repeat (first | refine blk_drewN ?_ _ | refine blk_drew ?_ | refine blk_alloc ?_ _)); refine blk_put (cs := #[.int .i64 0, .int .i64 0, .int .i64 0]) ?_ 0 _ rfl; (with_reducible repeat (first | refine blk_drewN ?_ _ | refine blk_drew ?_ | refine blk_alloc ?_ _)); exact BK149.out⟩
              have n2_ : Aside0 (Below w.heap.size w (((w25.setCell ⟨gb149, 0, none⟩ (.int .i64 (wrap64 (562949953421307 - (Int.tmod (wrap64 (a4)) 3))))).setCell ⟨gb149, 1, none⟩ (.int .i64 5)).setCell ⟨gb149, 2, none⟩ (.int .i64 562949953421312))) := ⟨by repeat (first | (with_reducible first | exact HB.out | apply below_alloc | apply pw_below_drewN | apply below_drew1 | refine below_set ?_ GE143.out | refine below_set ?_ GE149.out) | exact HB.out)⟩
              (try clear BK143)
              (try clear BK149)
              (try clear HB)
              generalize (((w25.setCell ⟨gb149, 0, none⟩ (.int .i64 (wrap64 (562949953421307 - (Int.tmod (wrap64 (a4)) 3))))).setCell ⟨gb149, 1, none⟩ (.int .i64 5)).setCell ⟨gb149, 2, none⟩ (.int .i64 562949953421312)) = w28 at n0_ n1_ n2_ ⊢
              have BK143 := n0_
              have BK149 := n1_
              have HB := n2_
              clear n0_ n1_ n2_
              have n0_ := Aside0.mk (blk_drew BK143.out)
              have n1_ := Aside0.mk (blk_drew BK149.out)
              have n2_ := Aside0.mk (below_drew1 HB.out)
              clear BK143
              clear BK149
              clear HB
              have BK143 := n0_
              have BK149 := n1_
              have HB := n2_
              clear n0_ n1_ n2_
              refine start_ (n := 10) (S := fun w' => w'.cell? ⟨gb149, 0, none⟩ = some (.int .i64 (wrap64 (562949953421307 - (Int.tmod (wrap64 (a4)) 3)))) ∧ w'.cell? ⟨gb149, 1, none⟩ = some (.int .i64 5) ∧ w'.cell? ⟨gb149, 2, none⟩ = some (.int .i64 562949953421312)) (ds := []) #[false, false, false, false, false, false, false, false, false, false] (by kernel_rfl) rfl rfl ⟨(blk_cell BK149.out 0).trans rfl, (blk_cell BK149.out 1).trans rfl, (blk_cell BK149.out 2).trans rfl⟩ (fun hHeld => ?_); refine with_tabW flagstonelaw40_WealthFactors.tab10 flagstonelaw40_WealthFactors.bits10 (fun HT_ HW_ => ?_)
              generalize w28.drew = w29 at BK143 BK149 HB hHeld ⊢
              refine pure_ (i := 0) (N := some 55) (v := ?_) (a' := ?_) #[true, false, false, false, false, false, false, false, false, false] rfl rfl (any_of HT_.out (by kernel_rfl)) (fun _ _ _ h => h) (Or.inl ⟨by rfl, ?_⟩) ?_ ?_
              rotate_left
              · intro w'
                go_simp
                with_reducible rfl
              rotate_left
              · simp only [Act.put, List.setIfInBounds_toArray, List.set_cons_zero, List.set_cons_succ, i64_w, i32_w]
                rfl
              refine pure_ (i := 3) (N := some 58) (v := ?_) (a' := ?_) #[true, false, false, true, false, false, false, false, false, false] rfl rfl (any_of HT_.out (by kernel_rfl)) (fun _ _ _ h => h) (Or.inl ⟨by rfl, ?_⟩) ?_ ?_
              rotate_left
              · intro w'
                go_simp
                with_reducible rfl
              rotate_left
              · simp only [Act.put, List.setIfInBounds_toArray, List.set_cons_zero, List.set_cons_succ, i64_w, i32_w]
                rfl
              refine take_ (i := 2) (N := some 57) (v := ?_) (a' := ?_) #[true, false, true, true, false, false, false, false, false, false] rfl rfl (take_ofW HT_.out HW_.out (by kernel_rfl)) (fun _ _ _ h => h) (Or.inl ⟨by rfl, ?_⟩) hHeld ?_ ?_
              rotate_left
              · rintro w' ⟨s0, s1, s2⟩
                go_simp
                with_reducible rfl
              rotate_left
              · simp only [Act.put, List.setIfInBounds_toArray, List.set_cons_zero, List.set_cons_succ, i64_w, i32_w]
                rfl
              refine take_ (i := 4) (N := some 59) (v := ?_) (a' := ?_) #[true, false, true, true, true, false, false, false, false, false] rfl rfl (take_ofW HT_.out HW_.out (by kernel_rfl)) (fun _ _ _ h => h) (Or.inl ⟨by rfl, ?_⟩) hHeld ?_ ?_
              rotate_left
              · rintro w' ⟨s0, s1, s2⟩
                go_simp
                with_reducible rfl
              rotate_left
              · simp only [Act.put, List.setIfInBounds_toArray, List.set_cons_zero, List.set_cons_succ, i64_w, i32_w]
                rfl
              refine pure_ (i := 5) (N := some 60) (v := ?_) (a' := ?_) #[true, false, true, true, true, true, false, false, false, false] rfl rfl (any_of HT_.out (by kernel_rfl)) (fun _ _ _ h => h) (Or.inl ⟨by rfl, ?_⟩) ?_ ?_
              rotate_left
              · intro w'
                go_simp
                with_reducible rfl
              rotate_left
              · simp only [Act.put, List.setIfInBounds_toArray, List.set_cons_zero, List.set_cons_succ, i64_w, i32_w]
                rfl
              refine pure_ (i := 6) (N := some 61) (v := ?_) (a' := ?_) #[true, false, true, true, true, true, true, false, false, false] rfl rfl (any_of HT_.out (by kernel_rfl)) (fun _ _ _ h => h) (Or.inl ⟨by rfl, ?_⟩) ?_ ?_
              rotate_left
              · intro w'
                go_simp
                with_reducible rfl
              rotate_left
              · simp only [Act.put, List.setIfInBounds_toArray, List.set_cons_zero, List.set_cons_succ, i64_w, i32_w]
                rfl
              refine join_ (σ := Value × Value) 2 #[true, true, true, true, true, true, true, true, false, false] (fun s_ => [(56, s_.1), (62, s_.2)]) (fun s_ w' => (w'.cell? ⟨gb149, 0, none⟩ = some (.int .i64 (wrap64 (562949953421307 - (Int.tmod (wrap64 (a4)) 3)))) ∧ w'.cell? ⟨gb149, 1, none⟩ = some (.int .i64 5) ∧ w'.cell? ⟨gb149, 2, none⟩ = some (.int .i64 562949953421312)) ∧ (Kd.R k28 28 w' w.heap.size (fun k_ => some k_ ≠ (s_.2 : Value).ownBlock ∧ k_ ≠ gb143 ∧ k_ ≠ gb149) s_.1 t150) ∧ (Kd.R k28 28 w' w.heap.size (fun k_ => some k_ ≠ (s_.1 : Value).ownBlock ∧ k_ ≠ gb143 ∧ k_ ≠ gb149) s_.2 y153) ∧ (w'.heap[gb143]? = some (.cells #[.int .i64 a0_0, .int .i64 a0_1, .int .i64 a0_2] 28 (0, 0))) ∧ (w'.heap[gb149]? = some (.cells #[.int .i64 (wrap64 (562949953421307 - (Int.tmod (wrap64 (a4)) 3))), .int .i64 5, .int .i64 562949953421312] 28 (0, 0))) ∧ (Below w.heap.size w w')) ?_ ?_
              rotate_left
              · intro hCont
                refine two_ (i := 1) (j := 7) (Ni := some 56) (Nj := some 62) #[true, true, true, true, true, true, true, false, false, false] #[true, false, true, true, true, true, true, true, false, false] rfl rfl rfl rfl (two_of HT_.out (by kernel_rfl)) (by decide) (by decide) (fun K hK => ?_) (fun K hK => ?_)
                · skip
                  refine goes_ Try.func15 (by kernel_rfl) rfl #[.slice A3 l3.length c3] (by rfl) rfl rfl (by (try simp only [List.map_toArray, List.map_cons, List.map_nil]); first | done | rfl | (simp only [List.length_drop, List.length_take]; rfl)) ?_
                  with_reducible refine (flagstonedata_Scores.calls kj13 _ _ l3 t150 _ ?side1 ?side2 A23.out).mono ?_
                  (case side1 => repeat (first | exact (Kd.C_below HR3.out HB.out) | (with_reducible refine Kd.C_alloc ?_ _) | (with_reducible refine Kd.C_drewN ?_ _) | (with_reducible refine Kd.C_drew ?_)))
                  (case side2 => exact HC3.out)
                  rintro e w30 ⟨v151, rfl, ho0, hb⟩
                  refine ⟨_, rfl, ?_⟩
                  have n0_ := Aside0.mk (Kd.R_lower (Kd.R_newB (Kd.R_newB ho0 (g := gb143) (o := .cells #[.int .i64 a0_0, .int .i64 a0_1, .int .i64 a0_2] 28 (0, 0)) (by (with_reducible repeat (first | refine blk_drewN ?_ _ | refine blk_drew ?_ | refine blk_alloc ?_ _)); exact BK143.out)) (g := gb149) (o := .cells #[.int .i64 (wrap64 (562949953421307 - (Int.tmod (wrap64 (a4)) 3))), .int .i64 5, .int .i64 562949953421312] 28 (0, 0)) (by (with_reducible repeat (first | refine blk_drewN ?_ _ | refine blk_drew ?_ | refine blk_alloc ?_ _)); exact BK149.out)) (below_size (by repeat (first | (with_reducible first | exact HB.out | apply below_alloc | apply pw_below_drewN | apply below_drew1 | refine below_set ?_ GE143.out | refine below_set ?_ GE149.out) | exact HB.out))))
                  have n1_ := Aside0.mk (blk_below (g := gb143) (o := .cells #[.int .i64 a0_0, .int .i64 a0_1, .int .i64 a0_2] 28 (0, 0)) (by (with_reducible repeat (first | refine blk_drewN ?_ _ | refine blk_drew ?_ | refine blk_alloc ?_ _)); exact BK143.out) hb)
                  have n2_ := Aside0.mk (blk_below (g := gb149) (o := .cells #[.int .i64 (wrap64 (562949953421307 - (Int.tmod (wrap64 (a4)) 3))), .int .i64 5, .int .i64 562949953421312] 28 (0, 0)) (by (with_reducible repeat (first | refine blk_drewN ?_ _ | refine blk_drew ?_ | refine blk_alloc ?_ _)); exact BK149.out) hb)
                  have n3_ := Aside0.mk (below_step (by repeat (first | (with_reducible first | exact HB.out | apply below_alloc | apply pw_below_drewN | apply below_drew1 | refine below_set ?_ GE143.out | refine below_set ?_ GE149.out) | exact HB.out)) hb)
                  clear BK143
                  clear BK149
                  clear HB
                  have HO152 := n0_
                  have BK143 := n1_
                  have BK149 := n2_
                  have HB := n3_
                  clear n0_ n1_ n2_ n3_
                  (try clear hb)
                  (try clear hb2)
                  (try clear hk)
                  (try clear hi)
                  (try clear ho0)
                  refine hK.out _ _ ⟨(blk_cell BK149.out 0).trans rfl, (blk_cell BK149.out 1).trans rfl, (blk_cell BK149.out 2).trans rfl⟩ (fun hHeld => ?_)
                  clear hK K
                  refine norm_ (a' := ?_) ?_ ?_
                  rotate_left
                  · show Act.put _ (some 56) _ = _
                    simp only [Act.put, List.setIfInBounds_toArray, List.set_cons_zero, List.set_cons_succ, i64_w, i32_w]
                    rfl
                  refine one_ (i := 7) (N := some 62) #[true, true, true, true, true, true, true, true, false, false] rfl rfl (one_of HT_.out (by kernel_rfl)) (by decide) (fun K hK => ?_)
                  refine Kd.R_lit_step k28 _ 28 ?hg (N := 62) ?hd (xs := ([(⟨wrap64 (562949953421307 - (Int.tmod (wrap64 (a4)) 3)), 5, 562949953421312⟩ : S28), (⟨wrap64 (-(wrap64 (562949953421307 - (Int.tmod (wrap64 (a4)) 3)))), 5, 562949953421312⟩ : S28)] : List (S28))) (inner := [.int .i64 (wrap64 (562949953421307 - (Int.tmod (wrap64 (a4)) 3))), .int .i64 5, .int .i64 562949953421312, .int .i64 (wrap64 (-(wrap64 (562949953421307 - (Int.tmod (wrap64 (a4)) 3))))), .int .i64 5, .int .i64 562949953421312]) (ok := fun _ => True) (okp := fun _ => True) ?hr ?hp (fun _ hk => hk) trivial (Below.refl _ _) (Nat.le_refl _) (by simp) ?_; (case hd => rfl); (case hg => rfl); (case hr => first | (go_simp; done) | (go_simp; rfl)); (case hp => exact (Reps.c3 (show Kd.M k28 _ _ _ (⟨wrap64 (562949953421307 - (Int.tmod (wrap64 (a4)) 3)), 5, 562949953421312⟩ : S28) [.int .i64 (wrap64 (562949953421307 - (Int.tmod (wrap64 (a4)) 3))), .int .i64 5, .int .i64 562949953421312] from (k28_mkM _ _ _ (⟨wrap64 (562949953421307 - (Int.tmod (wrap64 (a4)) 3)), 5, 562949953421312⟩ : S28) )) (Reps.c3 (show Kd.M k28 _ _ _ (⟨wrap64 (-(wrap64 (562949953421307 - (Int.tmod (wrap64 (a4)) 3)))), 5, 562949953421312⟩ : S28) [.int .i64 (wrap64 (-(wrap64 (562949953421307 - (Int.tmod (wrap64 (a4)) 3))))), .int .i64 5, .int .i64 562949953421312] from (k28_mkM _ _ _ (⟨wrap64 (-(wrap64 (562949953421307 - (Int.tmod (wrap64 (a4)) 3)))), 5, 562949953421312⟩ : S28) )) (Reps.none _ _))))
                  intro v154 w31 ho32 hb hg_ hnew_
                  clear hg_ hnew_
                  (first | rw [← Ny153.out] at ho32 | (simp only [Int.reduceToNat] at ho32; rw [← Ny153.out] at ho32))
                  have n0_ := Aside0.mk (Kd.R_elder' (by (with_reducible repeat (first | apply Kd.R_alloc | apply Kd.R_drewN | apply Kd.R_drew)); exact HO152.out) (Kd.R_base ho32) hb)
                  have n1_ := Aside0.mk (Kd.R_lower (Kd.R_newB (Kd.R_newB (Kd.R_new' ho32 (Kd.R_lt (by (with_reducible repeat (first | apply Kd.R_alloc | apply Kd.R_drewN | apply Kd.R_drew)); exact HO152.out))) (g := gb143) (o := .cells #[.int .i64 a0_0, .int .i64 a0_1, .int .i64 a0_2] 28 (0, 0)) (by (with_reducible repeat (first | refine blk_drewN ?_ _ | refine blk_drew ?_ | refine blk_alloc ?_ _)); exact BK143.out)) (g := gb149) (o := .cells #[.int .i64 (wrap64 (562949953421307 - (Int.tmod (wrap64 (a4)) 3))), .int .i64 5, .int .i64 562949953421312] 28 (0, 0)) (by (with_reducible repeat (first | refine blk_drewN ?_ _ | refine blk_drew ?_ | refine blk_alloc ?_ _)); exact BK149.out)) (below_size (by repeat (first | (with_reducible first | exact HB.out | apply below_alloc | apply pw_below_drewN | apply below_drew1 | refine below_set ?_ GE143.out | refine below_set ?_ GE149.out) | exact HB.out))))
                  have n2_ := Aside0.mk (blk_below (g := gb143) (o := .cells #[.int .i64 a0_0, .int .i64 a0_1, .int .i64 a0_2] 28 (0, 0)) (by (with_reducible repeat (first | refine blk_drewN ?_ _ | refine blk_drew ?_ | refine blk_alloc ?_ _)); exact BK143.out) hb)
                  have n3_ := Aside0.mk (blk_below (g := gb149) (o := .cells #[.int .i64 (wrap64 (562949953421307 - (Int.tmod (wrap64 (a4)) 3))), .int .i64 5, .int .i64 562949953421312] 28 (0, 0)) (by (with_reducible repeat (first | refine blk_drewN ?_ _ | refine blk_drew ?_ | refine blk_alloc ?_ _)); exact BK149.out) hb)
                  have n4_ := Aside0.mk (below_step (by repeat (first | (with_reducible first | exact HB.out | apply below_alloc | apply pw_below_drewN | apply below_drew1 | refine below_set ?_ GE143.out | refine below_set ?_ GE149.out) | exact HB.out)) hb)
                  clear HO152
                  clear BK143
                  clear BK149
                  clear HB
                  have HO152 := n0_
                  have HO155 := n1_
                  have BK143 := n2_
                  have BK149 := n3_
                  have HB := n4_
                  clear n0_ n1_ n2_ n3_ n4_
                  clear hb ho32
                  refine hK.out _ _ ⟨(blk_cell BK149.out 0).trans rfl, (blk_cell BK149.out 1).trans rfl, (blk_cell BK149.out 2).trans rfl⟩ (fun hHeld => ?_)
                  clear hK K
                  refine norm_ (a' := ?_) ?_ ?_
                  rotate_left
                  · show Act.put _ (some 62) _ = _
                    simp only [Act.put, List.setIfInBounds_toArray, List.set_cons_zero, List.set_cons_succ, i64_w, i32_w]
                    rfl
                  exact norm_ (by simp only [putAll, Act.put, List.setIfInBounds_toArray, List.set_cons_zero, List.set_cons_succ]) (hCont (v151, v154) _ ⟨hHeld, (by (with_reducible repeat (first | apply Kd.R_alloc | apply Kd.R_drewN | apply Kd.R_drew)); exact Kd.R_mono HO152.out (fun _ hk => ⟨hk.2, ⟨hk.1.1.2, hk.1.2⟩⟩)), (by (with_reducible repeat (first | apply Kd.R_alloc | apply Kd.R_drewN | apply Kd.R_drew)); exact Kd.R_mono HO155.out (fun _ hk => ⟨hk.1.1.2, ⟨hk.1.2, hk.2⟩⟩)), (by (with_reducible repeat (first | refine blk_drewN ?_ _ | refine blk_drew ?_ | refine blk_alloc ?_ _)); exact BK143.out), (by (with_reducible repeat (first | refine blk_drewN ?_ _ | refine blk_drew ?_ | refine blk_alloc ?_ _)); exact BK149.out), (by repeat (first | (with_reducible first | exact HB.out | apply below_alloc | apply pw_below_drewN | apply below_drew1 | refine below_set ?_ GE143.out | refine below_set ?_ GE149.out) | exact HB.out))⟩)
                · skip
                  refine Kd.R_lit_step k28 _ 28 ?hg (N := 62) ?hd (xs := ([(⟨wrap64 (562949953421307 - (Int.tmod (wrap64 (a4)) 3)), 5, 562949953421312⟩ : S28), (⟨wrap64 (-(wrap64 (562949953421307 - (Int.tmod (wrap64 (a4)) 3)))), 5, 562949953421312⟩ : S28)] : List (S28))) (inner := [.int .i64 (wrap64 (562949953421307 - (Int.tmod (wrap64 (a4)) 3))), .int .i64 5, .int .i64 562949953421312, .int .i64 (wrap64 (-(wrap64 (562949953421307 - (Int.tmod (wrap64 (a4)) 3))))), .int .i64 5, .int .i64 562949953421312]) (ok := fun _ => True) (okp := fun _ => True) ?hr ?hp (fun _ hk => hk) trivial (Below.refl _ _) (Nat.le_refl _) (by simp) ?_; (case hd => rfl); (case hg => rfl); (case hr => first | (go_simp; done) | (go_simp; rfl)); (case hp => exact (Reps.c3 (show Kd.M k28 _ _ _ (⟨wrap64 (562949953421307 - (Int.tmod (wrap64 (a4)) 3)), 5, 562949953421312⟩ : S28) [.int .i64 (wrap64 (562949953421307 - (Int.tmod (wrap64 (a4)) 3))), .int .i64 5, .int .i64 562949953421312] from (k28_mkM _ _ _ (⟨wrap64 (562949953421307 - (Int.tmod (wrap64 (a4)) 3)), 5, 562949953421312⟩ : S28) )) (Reps.c3 (show Kd.M k28 _ _ _ (⟨wrap64 (-(wrap64 (562949953421307 - (Int.tmod (wrap64 (a4)) 3)))), 5, 562949953421312⟩ : S28) [.int .i64 (wrap64 (-(wrap64 (562949953421307 - (Int.tmod (wrap64 (a4)) 3))))), .int .i64 5, .int .i64 562949953421312] from (k28_mkM _ _ _ (⟨wrap64 (-(wrap64 (562949953421307 - (Int.tmod (wrap64 (a4)) 3)))), 5, 562949953421312⟩ : S28) )) (Reps.none _ _))))
                  intro v154 w30 ho31 hb hg_ hnew_
                  clear hg_ hnew_
                  (first | rw [← Ny153.out] at ho31 | (simp only [Int.reduceToNat] at ho31; rw [← Ny153.out] at ho31))
                  have n0_ := Aside0.mk (Kd.R_lower (Kd.R_newB (Kd.R_newB ho31 (g := gb143) (o := .cells #[.int .i64 a0_0, .int .i64 a0_1, .int .i64 a0_2] 28 (0, 0)) (by (with_reducible repeat (first | refine blk_drewN ?_ _ | refine blk_drew ?_ | refine blk_alloc ?_ _)); exact BK143.out)) (g := gb149) (o := .cells #[.int .i64 (wrap64 (562949953421307 - (Int.tmod (wrap64 (a4)) 3))), .int .i64 5, .int .i64 562949953421312] 28 (0, 0)) (by (with_reducible repeat (first | refine blk_drewN ?_ _ | refine blk_drew ?_ | refine blk_alloc ?_ _)); exact BK149.out)) (below_size (by repeat (first | (with_reducible first | exact HB.out | apply below_alloc | apply pw_below_drewN | apply below_drew1 | refine below_set ?_ GE143.out | refine below_set ?_ GE149.out) | exact HB.out))))
                  have n1_ := Aside0.mk (blk_below (g := gb143) (o := .cells #[.int .i64 a0_0, .int .i64 a0_1, .int .i64 a0_2] 28 (0, 0)) (by (with_reducible repeat (first | refine blk_drewN ?_ _ | refine blk_drew ?_ | refine blk_alloc ?_ _)); exact BK143.out) hb)
                  have n2_ := Aside0.mk (blk_below (g := gb149) (o := .cells #[.int .i64 (wrap64 (562949953421307 - (Int.tmod (wrap64 (a4)) 3))), .int .i64 5, .int .i64 562949953421312] 28 (0, 0)) (by (with_reducible repeat (first | refine blk_drewN ?_ _ | refine blk_drew ?_ | refine blk_alloc ?_ _)); exact BK149.out) hb)
                  have n3_ := Aside0.mk (below_step (by repeat (first | (with_reducible first | exact HB.out | apply below_alloc | apply pw_below_drewN | apply below_drew1 | refine below_set ?_ GE143.out | refine below_set ?_ GE149.out) | exact HB.out)) hb)
                  clear BK143
                  clear BK149
                  clear HB
                  have HO155 := n0_
                  have BK143 := n1_
                  have BK149 := n2_
                  have HB := n3_
                  clear n0_ n1_ n2_ n3_
                  clear hb ho31
                  refine hK.out _ _ ⟨(blk_cell BK149.out 0).trans rfl, (blk_cell BK149.out 1).trans rfl, (blk_cell BK149.out 2).trans rfl⟩ (fun hHeld => ?_)
                  clear hK K
                  refine norm_ (a' := ?_) ?_ ?_
                  rotate_left
                  · show Act.put _ (some 62) _ = _
                    simp only [Act.put, List.setIfInBounds_toArray, List.set_cons_zero, List.set_cons_succ, i64_w, i32_w]
                    rfl
                  refine one_ (i := 1) (N := some 56) #[true, true, true, true, true, true, true, true, false, false] rfl rfl (one_of HT_.out (by kernel_rfl)) (by decide) (fun K hK => ?_)
                  refine goes_ Try.func15 (by kernel_rfl) rfl #[.slice A3 l3.length c3] (by rfl) rfl rfl (by (try simp only [List.map_toArray, List.map_cons, List.map_nil]); first | done | rfl | (simp only [List.length_drop, List.length_take]; rfl)) ?_
                  with_reducible refine (flagstonedata_Scores.calls kj13 _ _ l3 t150 _ ?side1 ?side2 A23.out).mono ?_
                  (case side1 => repeat (first | exact (Kd.C_below HR3.out HB.out) | (with_reducible refine Kd.C_alloc ?_ _) | (with_reducible refine Kd.C_drewN ?_ _) | (with_reducible refine Kd.C_drew ?_)))
                  (case side2 => exact HC3.out)
                  rintro e w32 ⟨v151, rfl, ho0, hb⟩
                  refine ⟨_, rfl, ?_⟩
                  have n0_ := Aside0.mk (Kd.R_elder' (by (with_reducible repeat (first | apply Kd.R_alloc | apply Kd.R_drewN | apply Kd.R_drew)); exact HO155.out) (Kd.R_base ho0) hb)
                  have n1_ := Aside0.mk (Kd.R_lower (Kd.R_newB (Kd.R_newB (Kd.R_new' ho0 (Kd.R_lt (by (with_reducible repeat (first | apply Kd.R_alloc | apply Kd.R_drewN | apply Kd.R_drew)); exact HO155.out))) (g := gb143) (o := .cells #[.int .i64 a0_0, .int .i64 a0_1, .int .i64 a0_2] 28 (0, 0)) (by (with_reducible repeat (first | refine blk_drewN ?_ _ | refine blk_drew ?_ | refine blk_alloc ?_ _)); exact BK143.out)) (g := gb149) (o := .cells #[.int .i64 (wrap64 (562949953421307 - (Int.tmod (wrap64 (a4)) 3))), .int .i64 5, .int .i64 562949953421312] 28 (0, 0)) (by (with_reducible repeat (first | refine blk_drewN ?_ _ | refine blk_drew ?_ | refine blk_alloc ?_ _)); exact BK149.out)) (below_size (by repeat (first | (with_reducible first | exact HB.out | apply below_alloc | apply pw_below_drewN | apply below_drew1 | refine below_set ?_ GE143.out | refine below_set ?_ GE149.out) | exact HB.out))))
                  have n2_ := Aside0.mk (blk_below (g := gb143) (o := .cells #[.int .i64 a0_0, .int .i64 a0_1, .int .i64 a0_2] 28 (0, 0)) (by (with_reducible repeat (first | refine blk_drewN ?_ _ | refine blk_drew ?_ | refine blk_alloc ?_ _)); exact BK143.out) hb)
                  have n3_ := Aside0.mk (blk_below (g := gb149) (o := .cells #[.int .i64 (wrap64 (562949953421307 - (Int.tmod (wrap64 (a4)) 3))), .int .i64 5, .int .i64 562949953421312] 28 (0, 0)) (by (with_reducible repeat (first | refine blk_drewN ?_ _ | refine blk_drew ?_ | refine blk_alloc ?_ _)); exact BK149.out) hb)
                  have n4_ := Aside0.mk (below_step (by repeat (first | (with_reducible first | exact HB.out | apply below_alloc | apply pw_below_drewN | apply below_drew1 | refine below_set ?_ GE143.out | refine below_set ?_ GE149.out) | exact HB.out)) hb)
                  clear HO155
                  clear BK143
                  clear BK149
                  clear HB
                  have HO155 := n0_
                  have HO152 := n1_
                  have BK143 := n2_
                  have BK149 := n3_
                  have HB := n4_
                  clear n0_ n1_ n2_ n3_ n4_
                  (try clear hb)
                  (try clear hb2)
                  (try clear hk)
                  (try clear hi)
                  (try clear ho0)
                  refine hK.out _ _ ⟨(blk_cell BK149.out 0).trans rfl, (blk_cell BK149.out 1).trans rfl, (blk_cell BK149.out 2).trans rfl⟩ (fun hHeld => ?_)
                  clear hK K
                  refine norm_ (a' := ?_) ?_ ?_
                  rotate_left
                  · show Act.put _ (some 56) _ = _
                    simp only [Act.put, List.setIfInBounds_toArray, List.set_cons_zero, List.set_cons_succ, i64_w, i32_w]
                    rfl
                  exact norm_ (by simp only [putAll, Act.put, List.setIfInBounds_toArray, List.set_cons_zero, List.set_cons_succ]) (hCont (v151, v154) _ ⟨hHeld, (by (with_reducible repeat (first | apply Kd.R_alloc | apply Kd.R_drewN | apply Kd.R_drew)); exact Kd.R_mono HO152.out (fun _ hk => ⟨hk.1.1.2, ⟨hk.1.2, hk.2⟩⟩)), (by (with_reducible repeat (first | apply Kd.R_alloc | apply Kd.R_drewN | apply Kd.R_drew)); exact Kd.R_mono HO155.out (fun _ hk => ⟨hk.2, ⟨hk.1.1.2, hk.1.2⟩⟩)), (by (with_reducible repeat (first | refine blk_drewN ?_ _ | refine blk_drew ?_ | refine blk_alloc ?_ _)); exact BK143.out), (by (with_reducible repeat (first | refine blk_drewN ?_ _ | refine blk_drew ?_ | refine blk_alloc ?_ _)); exact BK149.out), (by repeat (first | (with_reducible first | exact HB.out | apply below_alloc | apply pw_below_drewN | apply below_drew1 | refine below_set ?_ GE143.out | refine below_set ?_ GE149.out) | exact HB.out))⟩)
              rintro ⟨v151, v154⟩ w33 ⟨hS_, h0_, h1_, h2_, h3_, h4_⟩
              have n0_ : Aside0 (Kd.R k28 28 w33 w.heap.size (fun k_ => some k_ ≠ (v154 : Value).ownBlock ∧ k_ ≠ gb143 ∧ k_ ≠ gb149) v151 t150) := ⟨h0_⟩
              have n1_ : Aside0 (Kd.R k28 28 w33 w.heap.size (fun k_ => some k_ ≠ (v151 : Value).ownBlock ∧ k_ ≠ gb143 ∧ k_ ≠ gb149) v154 y153) := ⟨h1_⟩
              have n2_ : Aside0 (w33.heap[gb143]? = some (.cells #[.int .i64 a0_0, .int .i64 a0_1, .int .i64 a0_2] 28 (0, 0))) := ⟨h2_⟩
              have n3_ : Aside0 (w33.heap[gb149]? = some (.cells #[.int .i64 (wrap64 (562949953421307 - (Int.tmod (wrap64 (a4)) 3))), .int .i64 5, .int .i64 562949953421312] 28 (0, 0))) := ⟨h3_⟩
              have n4_ : Aside0 (Below w.heap.size w w33) := ⟨h4_⟩
              clear BK143
              clear BK149
              clear HB
              clear h0_ h1_ h2_ h3_ h4_
              have HO152 := n0_
              have HO155 := n1_
              have BK143 := n2_
              have BK149 := n3_
              have HB := n4_
              clear n0_ n1_ n2_ n3_ n4_
              have hHeld : w33.cell? ⟨gb149, 0, none⟩ = some (.int .i64 (wrap64 (562949953421307 - (Int.tmod (wrap64 (a4)) 3)))) ∧ w33.cell? ⟨gb149, 1, none⟩ = some (.int .i64 5) ∧ w33.cell? ⟨gb149, 2, none⟩ = some (.int .i64 562949953421312) := hS_
              obtain ⟨Ao35, co35, eo35⟩ := Kd.R_slice HO155.out
              (first | subst eo35 | (injection eo35 with f1_ f2_ f3_; have f4_ := f1_.symm; have f5_ := f3_.symm; clear f1_ f2_ f3_; subst f4_; subst f5_))
              refine norm_ (a' := ?_) ?_ ?_
              rotate_left
              · simp only [putAll, Act.put, List.setIfInBounds_toArray, List.set_cons_zero, List.set_cons_succ]
                rfl
              refine one_ (i := 8) (N := some 63) #[true, true, true, true, true, true, true, true, true, false] rfl rfl (one_of HT_.out (by kernel_rfl)) (by decide) (fun K hK => ?_)
              refine Kd.R_append_rows_step k28 (w0 := w) w.heap.size (by rfl) (.tmp 56) (.tmp 62) 33 28 (.agg #[(.int .i64 0), (.int .i64 0), (.int .i64 0)]) 24 rfl Try.underlying33 info28 rfl (by decide) (by omega) v151 t150 y153 _ _ _ (fun k_ => some k_ ≠ (.slice Ao35 y153.length co35 : Value).ownBlock ∧ k_ ≠ gb143 ∧ k_ ≠ gb149) (fun _ => False) rfl rfl ?aO ?aR (fun _ _ h => h) (fun _ h => h.elim) ?aF ?aB ?aS ?aL ?_
              (case aR => repeat (first | exact (Kd.R_reads' HO155.out).2.2 | (with_reducible refine Kd.C_alloc ?_ _) | (with_reducible refine Kd.C_drewN ?_ _) | (with_reducible refine Kd.C_drew ?_)))
              (case aB => exact (by repeat (first | (with_reducible first | exact HB.out | apply below_alloc | apply pw_below_drewN | apply below_drew1 | refine below_set ?_ GE143.out | refine below_set ?_ GE149.out) | exact HB.out)))
              (case aF => exact (fun k_ hk => ⟨Kd.fresh' (Kd.R_lt (by (with_reducible repeat (first | apply Kd.R_alloc | apply Kd.R_drewN | apply Kd.R_drew)); exact HO155.out)) k_ hk, Kd.freshB (g := gb143) (o := .cells #[.int .i64 a0_0, .int .i64 a0_1, .int .i64 a0_2] 28 (0, 0)) (by (with_reducible repeat (first | refine blk_drewN ?_ _ | refine blk_drew ?_ | refine blk_alloc ?_ _)); exact BK143.out) k_ hk, Kd.freshB (g := gb149) (o := .cells #[.int .i64 (wrap64 (562949953421307 - (Int.tmod (wrap64 (a4)) 3))), .int .i64 5, .int .i64 562949953421312] 28 (0, 0)) (by (with_reducible repeat (first | refine blk_drewN ?_ _ | refine blk_drew ?_ | refine blk_alloc ?_ _)); exact BK149.out) k_ hk⟩))
              (case aO => exact (by (with_reducible repeat (first | apply Kd.R_alloc | apply Kd.R_drewN | apply Kd.R_drew)); exact HO152.out))
              (case aS => exact (below_size (by repeat (first | (with_reducible first | exact HB.out | apply below_alloc | apply pw_below_drewN | apply below_drew1 | refine below_set ?_ GE143.out | refine below_set ?_ GE149.out) | exact HB.out))))
              (case aL => have := LMc24.out; omega)
              intro v157 w34 ho hb hg hat
              rw [← Ny156.out] at ho
              have n0_ := Aside0.mk (blk_grown (g := gb143) (o := .cells #[.int .i64 a0_0, .int .i64 a0_1, .int .i64 a0_2] 28 (0, 0)) (by (with_reducible repeat (first | refine blk_drewN ?_ _ | refine blk_drew ?_ | refine blk_alloc ?_ _)); exact BK143.out) hg (Kd.R_away HO152.out (fun _ hk => hk.2.1)))
              have n1_ := Aside0.mk (blk_grown (g := gb149) (o := .cells #[.int .i64 (wrap64 (562949953421307 - (Int.tmod (wrap64 (a4)) 3))), .int .i64 5, .int .i64 562949953421312] 28 (0, 0)) (by (with_reducible repeat (first | refine blk_drewN ?_ _ | refine blk_drew ?_ | refine blk_alloc ?_ _)); exact BK149.out) hg (Kd.R_away HO152.out (fun _ hk => hk.2.2)))
              have n2_ := Aside0.mk (Kd.R_after (ok := (fun k_ => k_ ≠ gb143 ∧ k_ ≠ gb149)) (by (with_reducible repeat (first | apply Kd.R_alloc | apply Kd.R_drewN | apply Kd.R_drew)); exact Kd.R_mono HO155.out (fun _ hk => ⟨⟨hk.2.1, hk.2.2⟩, hk.1⟩)) hg hat)
              have n3_ := Aside0.mk (hb)
              have n4_ := Aside0.mk (ho)
              clear BK143
              clear BK149
              clear HO155
              clear HB
              clear HO152
              have BK143 := n0_
              have BK149 := n1_
              have HO155 := n2_
              have HB := n3_
              have HO158 := n4_
              clear n0_ n1_ n2_ n3_ n4_
              clear ho hb hg hat
              refine hK.out _ _ ⟨(blk_cell BK149.out 0).trans rfl, (blk_cell BK149.out 1).trans rfl, (blk_cell BK149.out 2).trans rfl⟩ (fun hHeld => ?_)
              clear hK K
              refine norm_ (a' := ?_) ?_ ?_
              rotate_left
              · show Act.put _ (some 63) _ = _
                simp only [Act.put, List.setIfInBounds_toArray, List.set_cons_zero, List.set_cons_succ, i64_w, i32_w]
                rfl
              refine pure_ (i := 9) (N := some 18) (v := ?_) (a' := ?_) #[true, true, true, true, true, true, true, true, true, true] rfl rfl (any_of HT_.out (by kernel_rfl)) (fun _ _ _ h => h) (Or.inl ⟨by rfl, ?_⟩) ?_ ?_
              rotate_left
              · intro w'
                go_simp
                with_reducible rfl
              rotate_left
              · simp only [Act.put, List.setIfInBounds_toArray, List.set_cons_zero, List.set_cons_succ, i64_w, i32_w]
                rfl
              refine done_ (done_of HT_.out (by kernel_rfl)) ?_
              try go_wp2
              go_loopg [19] kj13 (fun kq v19 w' => ∃ (x19_2 : Int), v19 = .int .i64 x19_2 ∧ Aside0 (flagstonelaw40_WealthFactors.l0 kq a4 a5 y156 x19_2 = some r) ∧ Aside0 (kq ≤ kj13) ∧ Aside0 (Kd.R k28 28 w' w.heap.size (fun k_ => k_ ≠ gb143 ∧ k_ ≠ gb149) v157 y156) ∧ Aside0 (w'.heap[gb143]? = some (.cells #[.int .i64 a0_0, .int .i64 a0_1, .int .i64 a0_2] 28 (0, 0))) ∧ Aside0 (w'.heap[gb149]? = some (.cells #[.int .i64 (wrap64 (562949953421307 - (Int.tmod (wrap64 (a4)) 3))), .int .i64 5, .int .i64 562949953421312] 28 (0, 0))) ∧ Aside0 (Below w.heap.size w w'))
              case atStart => exact ⟨(0), (by first | rfl | (simp; done) | (simp [*]; done) | exact congrArg (Value.int _) (by unfold wrap64; omega)), H', ⟨Nat.le_refl _⟩, ⟨by (with_reducible repeat (first | apply Kd.R_alloc | apply Kd.R_drewN | apply Kd.R_drew)); exact Kd.R_mono HO158.out (fun _ hk => ⟨hk.2.1, hk.2.2⟩)⟩, ⟨by (with_reducible repeat (first | refine blk_drewN ?_ _ | refine blk_drew ?_ | refine blk_alloc ?_ _)); exact BK143.out⟩, ⟨by (with_reducible repeat (first | refine blk_drewN ?_ _ | refine blk_drew ?_ | refine blk_alloc ?_ _)); exact BK149.out⟩, ⟨by repeat (first | (with_reducible first | exact HB.out | apply below_alloc | apply pw_below_drewN | apply below_drew1 | refine below_set ?_ GE143.out | refine below_set ?_ GE149.out) | exact HB.out)⟩⟩
              case round =>
                clear H'
                try clear c1
                try clear c2
                try clear p2
                try clear c3
                try clear c4
                try clear p6
                try clear c8
                try clear c9
                try clear c9b0
                try clear c9b1
                try clear c10
                try clear c13
                try clear c14
                try clear c15
                try clear c21
                try clear c21b0
                try clear c21b1
                try clear c22
                try clear c24
                try clear c26
                try clear hcz17_0
                try clear hcz17_1
                try clear hcz17_2
                try clear hcz19_0
                try clear hcz19_1
                try clear hcz19_2
                try clear hcz27_0
                try clear hcz27_1
                try clear hcz27_2
                try clear hfz17_0
                try clear hfz17_1
                try clear hfz17_2
                try clear hfz19_0
                try clear hfz19_1
                try clear hfz19_2
                try clear hfz27_0
                try clear hfz27_1
                try clear hfz27_2
                try clear p2
                try clear p6
                obtain ⟨x19_2, rfl, HA, HK2, HO_18, BK143, BK149, HB⟩ := hrel
                cases gk with
                | zero => exact absurd HA.out (by simp [flagstonelaw40_WealthFactors.l0])
                | succ k2 =>
                  have H := HA.out
                  clear HA
                  simp only [flagstonelaw40_WealthFactors.l0] at H
                  by_cases c36 : x19_2 < (y156.length : Int)
                  · rw [if_pos c36] at H
                    have c36b0 : decide (x19_2 < (y156.length : Int)) = true := decide_eq_true c36
                    clear c36
                    have H' := Aside0.mk H
                    clear H
                    obtain ⟨Ao37, co37, eo37⟩ := Kd.R_slice HO_18.out
                    subst eo37
                    go_wp2
                    go_loopg [20] k2 (fun kq v20 w' => ∃ (x20_3 : Int), v20 = .int .i64 x20_3 ∧ Aside0 (flagstonelaw40_WealthFactors.l1 kq a4 a5 y156 x19_2 x20_3 = some r) ∧ Aside0 (kq ≤ k2) ∧ Aside0 (Kd.R k28 28 w' w.heap.size (fun k_ => k_ ≠ gb143 ∧ k_ ≠ gb149) (.slice Ao37 y156.length co37) y156) ∧ Aside0 (w'.heap[gb143]? = some (.cells #[.int .i64 a0_0, .int .i64 a0_1, .int .i64 a0_2] 28 (0, 0))) ∧ Aside0 (w'.heap[gb149]? = some (.cells #[.int .i64 (wrap64 (562949953421307 - (Int.tmod (wrap64 (a4)) 3))), .int .i64 5, .int .i64 562949953421312] 28 (0, 0))) ∧ Aside0 (Below w.heap.size w w'))
                    case atStart => exact ⟨((-1)), (by first | rfl | (simp; done) | (simp [*]; done) | exact congrArg (Value.int _) (by unfold wrap64; omega)), H', ⟨Nat.le_refl _⟩, ⟨by (with_reducible repeat (first | apply Kd.R_alloc | apply Kd.R_drewN | apply Kd.R_drew)); exact HO_18.out⟩, ⟨by (with_reducible repeat (first | refine blk_drewN ?_ _ | refine blk_drew ?_ | refine blk_alloc ?_ _)); exact BK143.out⟩, ⟨by (with_reducible repeat (first | refine blk_drewN ?_ _ | refine blk_drew ?_ | refine blk_alloc ?_ _)); exact BK149.out⟩, ⟨by repeat (first | (with_reducible first | exact HB.out | apply below_alloc | apply pw_below_drewN | apply below_drew1 | refine below_set ?_ GE143.out | refine below_set ?_ GE149.out) | exact HB.out)⟩⟩
                    case round =>
                      clear H'
                      try clear c1
                      try clear c2
                      try clear p2
                      try clear c3
                      try clear c4
                      try clear p6
                      try clear c8
                      try clear c9
                      try clear c9b0
                      try clear c9b1
                      try clear c10
                      try clear c13
                      try clear c14
                      try clear c15
                      try clear c21
                      try clear c21b0
                      try clear c21b1
                      try clear c22
                      try clear c24
                      try clear c26
                      try clear c36
                      try clear c36b0
                      try clear hcz17_0
                      try clear hcz17_1
                      try clear hcz17_2
                      try clear hcz19_0
                      try clear hcz19_1
                      try clear hcz19_2
                      try clear hcz27_0
                      try clear hcz27_1
                      try clear hcz27_2
                      try clear hfz17_0
                      try clear hfz17_1
                      try clear hfz17_2
                      try clear hfz19_0
                      try clear hfz19_1
                      try clear hfz19_2
                      try clear hfz27_0
                      try clear hfz27_1
                      try clear hfz27_2
                      try clear p2
                      try clear p6
                      obtain ⟨x20_3, rfl, HA, HK3, HO_18, BK143, BK149, HB⟩ := hrel
                      cases gk with
                      | zero => exact absurd HA.out (by simp [flagstonelaw40_WealthFactors.l1])
                      | succ k3 =>
                        have H := HA.out
                        clear HA
                        simp only [flagstonelaw40_WealthFactors.l1] at H
                        by_cases c38 : x20_3 ≤ 5
                        · rw [if_pos c38] at H
                          have c38b0 : decide (x20_3 ≤ 5) = true := decide_eq_true c38
                          clear c38
                          by_cases c39 : 0 ≤ x19_2
                          · rw [if_pos c39] at H
                            have c39b0 : decide (0 ≤ x19_2) = true := decide_eq_true c39
                            clear c39
                            by_cases c40 : x19_2 < (y156.length : Int)
                            · rw [if_pos c40] at H
                              have c40b0 : decide (x19_2 < (y156.length : Int)) = true := decide_eq_true c40
                              clear c40
                              replace H := Option.bind_eq_some_iff.mp H
                              obtain ⟨⟨t160, t161⟩, A410, H⟩ := H
                              replace H : ((flagstoneref40_Factor.f k3 ((rd_T28 y156 x19_2).f0) ((rd_T28 y156 x19_2).f1) ((rd_T28 y156 x19_2).f2) (Int.tmod (wrap64 (a4)) 1002) x20_3 a5).bind fun bt163 => (if t160 = bt163.1 then (if t161 = bt163.2 then (if t160 < (wrap64 (Int.tdiv t161 2)) then (flagstonelaw40_WealthFactors.j3 k3 a4 a5 y156 x19_2 x20_3 true) else (flagstonelaw40_WealthFactors.j3 k3 a4 a5 y156 x19_2 x20_3 (decide ((wrap64 (t160 - t161)) > (wrap64 (Int.tdiv t161 2)))))) else (flagstonelaw40_WealthFactors.j3 k3 a4 a5 y156 x19_2 x20_3 true)) else (flagstonelaw40_WealthFactors.j3 k3 a4 a5 y156 x19_2 x20_3 true))) = some r := H
                              have A41 := Aside0.mk A410
                              clear A410
                              replace H := Option.bind_eq_some_iff.mp H
                              obtain ⟨⟨t163, t164⟩, A420, H⟩ := H
                              replace H : (if t160 = t163 then (if t161 = t164 then (if t160 < (wrap64 (Int.tdiv t161 2)) then (flagstonelaw40_WealthFactors.j3 k3 a4 a5 y156 x19_2 x20_3 true) else (flagstonelaw40_WealthFactors.j3 k3 a4 a5 y156 x19_2 x20_3 (decide ((wrap64 (t160 - t161)) > (wrap64 (Int.tdiv t161 2)))))) else (flagstonelaw40_WealthFactors.j3 k3 a4 a5 y156 x19_2 x20_3 true)) else (flagstonelaw40_WealthFactors.j3 k3 a4 a5 y156 x19_2 x20_3 true)) = some r := H
                              have A42 := Aside0.mk A420
                              clear A420
                              have HC43 := Aside0.mk H
                              clear H
                              have p159 : 0 ≤ (x19_2 : Int) := of_decide_eq_true (by first | (with_reducible assumption) | assumption)
                              have q159 : x19_2 < (y156.length : Int) := of_decide_eq_true (by first | (with_reducible assumption) | assumption)
                              obtain ⟨ad159, e159, hx159_0, hx159_1, hx159_2⟩ := at_T28 (Kd.R_reads' HO_18.out).2.2 x19_2 p159 q159
                              cases e159
                              replace p159 := eq_true p159
                              replace q159 := eq_true q159
                              go_upto_region 19 with (first | ((with_reducible refine gate_callee (f := 13) rfl ?_); refine goesL_ (some 84) rfl rfl Try.func13 (by kernel_rfl) rfl #[.agg #[.int .i64 ((rd_T28 y156 x19_2).f0), .int .i64 ((rd_T28 y156 x19_2).f1), .int .i64 ((rd_T28 y156 x19_2).f2)], .int .i64 (Int.tmod (wrap64 (a4)) 1002), .int .i64 x20_3, .bool a5] rfl (by (try simp only [List.map_toArray, List.map_cons, List.map_nil]); first | done | rfl | (simp only [List.length_drop, List.length_take]; rfl)) ?_; (with_reducible refine (wealth_Factor.calls k3 ((rd_T28 y156 x19_2).f0) ((rd_T28 y156 x19_2).f1) ((rd_T28 y156 x19_2).f2) (Int.tmod (wrap64 (a4)) 1002) x20_3 a5 t160 t161 _ A41.out).mono ?_); rintro e w44 ⟨rfl, hb⟩; refine ⟨_, rfl, ?_⟩; have n0_ := Aside0.mk (Kd.R_below (by (with_reducible repeat (first | apply Kd.R_alloc | apply Kd.R_drewN | apply Kd.R_drew)); exact HO_18.out) hb); have n1_ := Aside0.mk (blk_below (g := gb143) (o := .cells #[.int .i64 a0_0, .int .i64 a0_1, .int .i64 a0_2] 28 (0, 0)) (by (with_reducible repeat (first | refine blk_drewN ?_ _ | refine blk_drew ?_ | refine blk_alloc ?_ _)); exact BK143.out) hb); have n2_ := Aside0.mk (blk_below (g := gb149) (o := .cells #[.int .i64 (wrap64 (562949953421307 - (Int.tmod (wrap64 (a4)) 3))), .int .i64 5, .int .i64 562949953421312] 28 (0, 0)) (by (with_reducible repeat (first | refine blk_drewN ?_ _ | refine blk_drew ?_ | refine blk_alloc ?_ _)); exact BK149.out) hb); have n3_ := Aside0.mk (below_step (by repeat (first | (with_reducible first | exact HB.out | apply below_alloc | apply pw_below_drewN | apply below_drew1 | refine below_set ?_ GE143.out | refine below_set ?_ GE149.out) | exact HB.out)) hb); clear HO_18; clear BK143; clear BK149; clear HB; have HO_18 := n0_; have BK143 := n1_; have BK149 := n2_; have HB := n3_; clear n0_ n1_ n2_ n3_; (try clear hb); (try clear hb2); (try clear hk); (try clear hi); have p162 : 0 ≤ (x19_2 : Int) := of_decide_eq_true (by first | (with_reducible assumption) | assumption); have q162 : x19_2 < (y156.length : Int) := of_decide_eq_true (by first | (with_reducible assumption) | assumption); obtain ⟨ad162, e162, hx162_0, hx162_1, hx162_2⟩ := at_T28 (Kd.R_reads' HO_18.out).2.2 x19_2 p162 q162; obtain rfl : ad159 = ad162 := (by injection e162); replace p162 := eq_true p162; replace q162 := eq_true q162) | ((with_reducible refine gate_callee (f := 14) rfl ?_); refine goesL_ (some 97) rfl rfl Try.func14 (by kernel_rfl) rfl #[.agg #[.int .i64 ((rd_T28 y156 x19_2).f0), .int .i64 ((rd_T28 y156 x19_2).f1), .int .i64 ((rd_T28 y156 x19_2).f2)], .int .i64 (Int.tmod (wrap64 (a4)) 1002), .int .i64 x20_3, .bool a5] rfl (by (try simp only [List.map_toArray, List.map_cons, List.map_nil]); first | done | rfl | (simp only [List.length_drop, List.length_take]; rfl)) ?_; (with_reducible refine (flagstoneref40_Factor.calls k3 ((rd_T28 y156 x19_2).f0) ((rd_T28 y156 x19_2).f1) ((rd_T28 y156 x19_2).f2) (Int.tmod (wrap64 (a4)) 1002) x20_3 a5 t163 t164 _ A42.out).mono ?_); rintro e w45 ⟨rfl, hb⟩; refine ⟨_, rfl, ?_⟩; have n0_ := Aside0.mk (Kd.R_below (by (with_reducible repeat (first | apply Kd.R_alloc | apply Kd.R_drewN | apply Kd.R_drew)); exact HO_18.out) hb); have n1_ := Aside0.mk (blk_below (g := gb143) (o := .cells #[.int .i64 a0_0, .int .i64 a0_1, .int .i64 a0_2] 28 (0, 0)) (by (with_reducible repeat (first | refine blk_drewN ?_ _ | refine blk_drew ?_ | refine blk_alloc ?_ _)); exact BK143.out) hb); have n2_ := Aside0.mk (blk_below (g := gb149) (o := .cells #[.int .i64 (wrap64 (562949953421307 - (Int.tmod (wrap64 (a4)) 3))), .int .i64 5, .int .i64 562949953421312] 28 (0, 0)) (by (with_reducible repeat (first | refine blk_drewN ?_ _ | refine blk_drew ?_ | refine blk_alloc ?_ _)); exact BK149.out) hb); have n3_ := Aside0.mk (below_step (by repeat (first | (with_reducible first | exact HB.out | apply below_alloc | apply pw_below_drewN | apply below_drew1 | refine below_set ?_ GE143.out | refine below_set ?_ GE149.out) | exact HB.out)) hb); clear HO_18; clear BK143; clear BK149; clear HB; have HO_18 := n0_; have BK143 := n1_; have BK149 := n2_; have HB := n3_; clear n0_ n1_ n2_ n3_; (try clear hb); (try clear hb2); (try clear hk); (try clear hi)))
                              (try simp only [Act.put, List.setIfInBounds_toArray, List.set_cons_zero, List.set_cons_succ])
                              go_cut [121] (fun v121 wc => ∃ (kq : Nat) (x121_42 : Bool), v121 = .bool x121_42 ∧ Aside0 (flagstonelaw40_WealthFactors.j3 kq a4 a5 y156 x19_2 x20_3 x121_42 = some r) ∧ Aside0 (kq ≤ k3) ∧ Aside0 (Kd.R k28 28 wc w.heap.size (fun k_ => k_ ≠ gb143 ∧ k_ ≠ gb149) (.slice (some ad159) y156.length co37) y156) ∧ Aside0 (wc.heap[gb143]? = some (.cells #[.int .i64 a0_0, .int .i64 a0_1, .int .i64 a0_2] 28 (0, 0))) ∧ Aside0 (wc.heap[gb149]? = some (.cells #[.int .i64 (wrap64 (562949953421307 - (Int.tmod (wrap64 (a4)) 3))), .int .i64 5, .int .i64 562949953421312] 28 (0, 0))) ∧ Aside0 (Below w.heap.size w wc))
                              case first =>
                                have H := HC43.out
                                clear HC43
                                by_cases c46 : t160 = t163
                                · rw [if_pos c46] at H
                                  have c46b0 : (t160 == t163) = true := beq_iff_eq.mpr c46
                                  have c46b1 : (t160 != t163) = false := bne_eq_false_iff_eq.mpr c46
                                  clear c46
                                  (first | rw [c46b0] | (simp only [i64_w, i32_w]; rw [c46b0]) | skip)
                                  by_cases c47 : t161 = t164
                                  · rw [if_pos c47] at H
                                    have c47b0 : (t161 == t164) = true := beq_iff_eq.mpr c47
                                    have c47b1 : (t161 != t164) = false := bne_eq_false_iff_eq.mpr c47
                                    clear c47
                                    by_cases c48 : t160 < (wrap64 (Int.tdiv t161 2))
                                    · rw [if_pos c48] at H
                                      have c48b0 : decide (t160 < (wrap64 (Int.tdiv t161 2))) = true := decide_eq_true c48
                                      clear c48
                                      have H' := Aside0.mk H
                                      clear H
                                      go_wp2
                                      go_meet
                                      case rel => exact ⟨_, (true), (by first | rfl | (simp; done) | (simp [*]; done) | exact congrArg (Value.int _) (by unfold wrap64; omega)), H', ⟨by have := HJ13.out; have := HK2.out; have := HK3.out; first | omega | exact Nat.le_refl _⟩, ⟨by (with_reducible repeat (first | apply Kd.R_alloc | apply Kd.R_drewN | apply Kd.R_drew)); exact HO_18.out⟩, ⟨by (with_reducible repeat (first | refine blk_drewN ?_ _ | refine blk_drew ?_ | refine blk_alloc ?_ _)); exact BK143.out⟩, ⟨by (with_reducible repeat (first | refine blk_drewN ?_ _ | refine blk_drew ?_ | refine blk_alloc ?_ _)); exact BK149.out⟩, ⟨by repeat (first | (with_reducible first | exact HB.out | apply below_alloc | apply pw_below_drewN | apply below_drew1 | refine below_set ?_ GE143.out | refine below_set ?_ GE149.out) | exact HB.out)⟩⟩
                                    · rw [if_neg c48] at H
                                      have c48b0 : decide (t160 < (wrap64 (Int.tdiv t161 2))) = false := decide_eq_false c48
                                      clear c48
                                      have H' := Aside0.mk H
                                      clear H
                                      go_wp2
                                      go_meet
                                      case rel => exact ⟨_, (decide ((wrap64 (t160 - t161)) > (wrap64 (Int.tdiv t161 2)))), (by first | rfl | (simp; done) | (simp [*]; done) | exact congrArg (Value.int _) (by unfold wrap64; omega)), H', ⟨by have := HJ13.out; have := HK2.out; have := HK3.out; first | omega | exact Nat.le_refl _⟩, ⟨by (with_reducible repeat (first | apply Kd.R_alloc | apply Kd.R_drewN | apply Kd.R_drew)); exact HO_18.out⟩, ⟨by (with_reducible repeat (first | refine blk_drewN ?_ _ | refine blk_drew ?_ | refine blk_alloc ?_ _)); exact BK143.out⟩, ⟨by (with_reducible repeat (first | refine blk_drewN ?_ _ | refine blk_drew ?_ | refine blk_alloc ?_ _)); exact BK149.out⟩, ⟨by repeat (first | (with_reducible first | exact HB.out | apply below_alloc | apply pw_below_drewN | apply below_drew1 | refine below_set ?_ GE143.out | refine below_set ?_ GE149.out) | exact HB.out)⟩⟩
                                  · rw [if_neg c47] at H
                                    have c47b0 : (t161 == t164) = false := beq_eq_false_iff_ne.mpr c47
                                    have c47b1 : (t161 != t164) = true := bne_iff_ne.mpr c47
                                    have H' := Aside0.mk H
                                    clear H
                                    go_wp2
                                    go_meet
                                    case rel => exact ⟨_, (true), (by first | rfl | (simp; done) | (simp [*]; done) | exact congrArg (Value.int _) (by unfold wrap64; omega)), H', ⟨by have := HJ13.out; have := HK2.out; have := HK3.out; first | omega | exact Nat.le_refl _⟩, ⟨by (with_reducible repeat (first | apply Kd.R_alloc | apply Kd.R_drewN | apply Kd.R_drew)); exact HO_18.out⟩, ⟨by (with_reducible repeat (first | refine blk_drewN ?_ _ | refine blk_drew ?_ | refine blk_alloc ?_ _)); exact BK143.out⟩, ⟨by (with_reducible repeat (first | refine blk_drewN ?_ _ | refine blk_drew ?_ | refine blk_alloc ?_ _)); exact BK149.out⟩, ⟨by repeat (first | (with_reducible first | exact HB.out | apply below_alloc | apply pw_below_drewN | apply below_drew1 | refine below_set ?_ GE143.out | refine below_set ?_ GE149.out) | exact HB.out)⟩⟩
                                · rw [if_neg c46] at H
                                  have c46b0 : (t160 == t163) = false := beq_eq_false_iff_ne.mpr c46
                                  have c46b1 : (t160 != t163) = true := bne_iff_ne.mpr c46
                                  (first | rw [c46b0] | (simp only [i64_w, i32_w]; rw [c46b0]) | skip)
                                  have H' := Aside0.mk H
                                  clear H
                                  go_wp2
                                  go_meet
                                  case rel => exact ⟨_, (true), (by first | rfl | (simp; done) | (simp [*]; done) | exact congrArg (Value.int _) (by unfold wrap64; omega)), H', ⟨by have := HJ13.out; have := HK2.out; have := HK3.out; first | omega | exact Nat.le_refl _⟩, ⟨by (with_reducible repeat (first | apply Kd.R_alloc | apply Kd.R_drewN | apply Kd.R_drew)); exact HO_18.out⟩, ⟨by (with_reducible repeat (first | refine blk_drewN ?_ _ | refine blk_drew ?_ | refine blk_alloc ?_ _)); exact BK143.out⟩, ⟨by (with_reducible repeat (first | refine blk_drewN ?_ _ | refine blk_drew ?_ | refine blk_alloc ?_ _)); exact BK149.out⟩, ⟨by repeat (first | (with_reducible first | exact HB.out | apply below_alloc | apply pw_below_drewN | apply below_drew1 | refine below_set ?_ GE143.out | refine below_set ?_ GE149.out) | exact HB.out)⟩⟩
                              case rest =>
                                clear HC43
                                try clear c1
                                try clear p1
                                try clear q1
                                try clear hx1
                                try clear c2
                                try clear p2
                                try clear c3
                                try clear c4
                                try clear p6
                                try clear c8
                                try clear c9
                                try clear c9b0
                                try clear c9b1
                                try clear c10
                                try clear c13
                                try clear c14
                                try clear c15
                                try clear p15
                                try clear q15
                                try clear hx15
                                try clear p16
                                try clear q16
                                try clear hx16
                                try clear c21
                                try clear c21b0
                                try clear c21b1
                                try clear c22
                                try clear c24
                                try clear c26
                                try clear c36
                                try clear c36b0
                                try clear c38
                                try clear c38b0
                                try clear c39
                                try clear c39b0
                                try clear c40
                                try clear c40b0
                                try clear c46
                                try clear c46b0
                                try clear c46b1
                                try clear c47
                                try clear c47b0
                                try clear c47b1
                                try clear c48
                                try clear c48b0
                                try clear hcz17_0
                                try clear hcz17_1
                                try clear hcz17_2
                                try clear hcz19_0
                                try clear hcz19_1
                                try clear hcz19_2
                                try clear hcz27_0
                                try clear hcz27_1
                                try clear hcz27_2
                                try clear hfz17_0
                                try clear hfz17_1
                                try clear hfz17_2
                                try clear hfz19_0
                                try clear hfz19_1
                                try clear hfz19_2
                                try clear hfz27_0
                                try clear hfz27_1
                                try clear hfz27_2
                                try clear hx159_0
                                try clear hx159_1
                                try clear hx159_2
                                try clear hx162_0
                                try clear hx162_1
                                try clear hx162_2
                                try clear p159
                                try clear p162
                                try clear p2
                                try clear p6
                                try clear q159
                                try clear q162
                                obtain ⟨kq, x121_42, rfl, HA, HJ42, HO_18, BK143, BK149, HB⟩ := hcut
                                cases kq with
                                | zero => exact absurd HA.out (by simp [flagstonelaw40_WealthFactors.j3])
                                | succ kj42 =>
                                  have H := HA.out
                                  clear HA
                                  simp only [flagstonelaw40_WealthFactors.j3] at H
                                  by_cases c49 : x121_42 = true
                                  · subst c49
                                    have H1 : (some false) = some r := by rw [if_pos rfl] at H; exact H
                                    clear H
                                    have H := H1
                                    clear H1
                                    obtain rfl := Option.some.inj H
                                    go_wp2
                                    go_ret
                                    exact ⟨by first | rfl | (simp [errW_none, errW_some] <;> rfl) | (simp [*, errW_none, errW_some] <;> rfl), by repeat (first | (with_reducible first | exact HB.out | apply below_alloc | apply pw_below_drewN | apply below_drew1 | refine below_set ?_ GE143.out | refine below_set ?_ GE149.out) | exact HB.out)⟩
                                  · replace c49 := Bool.eq_false_iff.mpr c49
                                    subst c49
                                    have H1 : (flagstonelaw40_WealthFactors.l1 kj42 a4 a5 y156 x19_2 (wrap64 (x20_3 + 1))) = some r := by rw [if_neg (show ¬ (false = true) by decide)] at H; exact H
                                    clear H
                                    have H := H1
                                    clear H1
                                    have H' := Aside0.mk H
                                    clear H
                                    go_wp2
                                    go_roundg kj42
                                    case measure => have := HJ13.out; have := HK2.out; have := HK3.out; have := HJ42.out; omega
                                    case rel => exact ⟨(wrap64 (x20_3 + 1)), (by first | rfl | (simp; done) | (simp [*]; done) | exact congrArg (Value.int _) (by unfold wrap64; omega)), H', ⟨by have := HJ13.out; have := HK2.out; have := HK3.out; have := HJ42.out; omega⟩, ⟨by (with_reducible repeat (first | apply Kd.R_alloc | apply Kd.R_drewN | apply Kd.R_drew)); exact HO_18.out⟩, ⟨by (with_reducible repeat (first | refine blk_drewN ?_ _ | refine blk_drew ?_ | refine blk_alloc ?_ _)); exact BK143.out⟩, ⟨by (with_reducible repeat (first | refine blk_drewN ?_ _ | refine blk_drew ?_ | refine blk_alloc ?_ _)); exact BK149.out⟩, ⟨by repeat (first | (with_reducible first | exact HB.out | apply below_alloc | apply pw_below_drewN | apply below_drew1 | refine below_set ?_ GE143.out | refine below_set ?_ GE149.out) | exact HB.out)⟩⟩
                            · rw [if_neg c40] at H
                              exact absurd H (by simp)
                          · rw [if_neg c39] at H
                            exact absurd H (by simp)
                        · rw [if_neg c38] at H
                          have c38b0 : decide (x20_3 ≤ 5) = false := decide_eq_false c38
                          clear c38
                          have H' := Aside0.mk H
                          clear H
                          go_wp2
                          go_roundg k3
                          case measure => have := HJ13.out; have := HK2.out; have := HK3.out; omega
                          case rel => exact ⟨(wrap64 (x19_2 + 1)), (by first | rfl | (simp; done) | (simp [*]; done) | exact congrArg (Value.int _) (by unfold wrap64; omega)), H', ⟨by have := HJ13.out; have := HK2.out; have := HK3.out; omega⟩, ⟨by (with_reducible repeat (first | apply Kd.R_alloc | apply Kd.R_drewN | apply Kd.R_drew)); exact HO_18.out⟩, ⟨by (with_reducible repeat (first | refine blk_drewN ?_ _ | refine blk_drew ?_ | refine blk_alloc ?_ _)); exact BK143.out⟩, ⟨by (with_reducible repeat (first | refine blk_drewN ?_ _ | refine blk_drew ?_ | refine blk_alloc ?_ _)); exact BK149.out⟩, ⟨by repeat (first | (with_reducible first | exact HB.out | apply below_alloc | apply pw_below_drewN | apply below_drew1 | refine below_set ?_ GE143.out | refine below_set ?_ GE149.out) | exact HB.out)⟩⟩
                  · rw [if_neg c36] at H
                    have c36b0 : decide (x19_2 < (y156.length : Int)) = false := decide_eq_false c36
                    clear c36
                    obtain rfl := Option.some.inj H
                    obtain ⟨Ao50, co50, eo50⟩ := Kd.R_slice HO_18.out
                    subst eo50
                    go_wp2
                    go_ret
                    exact ⟨by first | rfl | (simp [errW_none, errW_some] <;> rfl) | (simp [*, errW_none, errW_some] <;> rfl), by repeat (first | (with_reducible first | exact HB.out | apply below_alloc | apply pw_below_drewN | apply below_drew1 | refine below_set ?_ GE143.out | refine below_set ?_ GE149.out) | exact HB.out)⟩
            · rw [if_neg c24] at H
              exact absurd H (by simp)
  · replace c8 := Bool.eq_false_iff.mpr c8
    subst c8
    have H1 : (some false) = some r := by rw [if_neg (show ¬ (false = true) by decide)] at H; exact H
    clear H
    have H := H1
    clear H1
    obtain rfl := Option.some.inj H
    go_enter Try.func4, Try.ntmps4
    go_wp2_with (first | ((with_reducible refine gate_dst (N := 6) rfl ?_); refine box_event ?hg (N := 6) ?hd (cs := #[.int .i64 a0_0, .int .i64 a0_1, .int .i64 a0_2]) (t := 28) ?hr ?_; (case hd => rfl); (case hg => rfl); (case hr => first | (go_simp; done) | (go_simp; rfl)); intro gb143 hg w51 hbox hb; have n0_ := Aside0.mk (below_step (by repeat (first | (with_reducible first | exact HB.out | apply below_alloc | apply pw_below_drewN | apply below_drew1) | exact HB.out)) hb); have n1_ := Aside0.mk (hbox); have n2_ := Aside0.mk ((by rw [hg]; exact (below_size (by repeat (first | (with_reducible first | exact HB.out | apply below_alloc | apply pw_below_drewN | apply below_drew1) | exact HB.out))) : w.heap.size ≤ gb143)); have n3_ := Aside0.mk ((by rw [hg]; exact (below_size (by repeat (first | (with_reducible first | exact HB.out | apply below_alloc | apply pw_below_drewN | apply below_drew1) | exact HB.out))) : w.heap.size ≤ gb143)); clear HB; have HB := n0_; have BK143 := n1_; have GW143 := n2_; have GE143 := n3_; clear n0_ n1_ n2_ n3_; clear hb hbox hg) | ((with_reducible refine gate_callee (f := 10) rfl ?_); refine goesL_ (some 21) rfl rfl Try.func10 (by kernel_rfl) rfl #[] rfl (by (try simp only [List.map_toArray, List.map_cons, List.map_nil]); first | done | rfl | (simp only [List.length_drop, List.length_take]; rfl)) ?_; (with_reducible refine (flagstonelaw40_awake.calls k  false _ A7.out).mono ?_); rintro e w52 ⟨rfl, hb⟩; refine ⟨_, rfl, ?_⟩; have n0_ := Aside0.mk (blk_below (g := gb143) (o := .cells #[.int .i64 a0_0, .int .i64 a0_1, .int .i64 a0_2] 28 (0, 0)) (by (with_reducible repeat (first | refine blk_drewN ?_ _ | refine blk_drew ?_ | refine blk_alloc ?_ _)); exact BK143.out) hb); have n1_ := Aside0.mk (below_step (by repeat (first | (with_reducible first | exact HB.out | apply below_alloc | apply pw_below_drewN | apply below_drew1 | refine below_set ?_ GE143.out) | exact HB.out)) hb); clear BK143; clear HB; have BK143 := n0_; have HB := n1_; clear n0_ n1_; (try clear hb); (try clear hb2); (try clear hk); (try clear hi)))
    go_ret
    exact ⟨by first | rfl | (simp [errW_none, errW_some] <;> rfl) | (simp [*, errW_none, errW_some] <;> rfl), by repeat (first | (with_reducible first | exact HB.out | apply below_alloc | apply pw_below_drewN | apply below_drew1 | refine below_set ?_ GE143.out) | exact HB.out)⟩

/-- THE ONE PURE STATEMENT of flagstonelaw40_WealthFactors: yours. -/
def flagstonelaw40_WealthFactors.Pure : Prop := ∀ (a0_0 : Int) (a0_1 : Int) (a0_2 : Int) (a1 : Int) (a2 : Int) (l3 : List Int) (a4 : Int) (a5 : Bool), (Lit.int .i64 a0_0).wf = true → (Lit.int .i64 a0_1).wf = true → (Lit.int .i64 a0_2).wf = true → (Lit.int .i64 a1).wf = true → (Lit.int .i64 a2).wf = true → l3.length ≤ maxLen → l3.length * 1 ≤ 140737488351232 → (∀ x ∈ l3, (Lit.int .u8 x).wf = true) → (Lit.int .i16 a4).wf = true → ∃ k, flagstonelaw40_WealthFactors.f k a0_0 a0_1 a0_2 a1 a2 l3 a4 a5 = some true

end Go.Proofs.Ytafcnpfhihnmgaa.PA
