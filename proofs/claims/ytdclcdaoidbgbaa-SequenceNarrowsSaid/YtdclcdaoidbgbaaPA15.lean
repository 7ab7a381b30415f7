-- Written by a program of this seat's session (wip/tools/ownprint.py, over the kit's printer) out of the translation: functions and their contracts.
import Derived.Test.YtdclcdaoidbgbaaPA0
import Derived.Test.YtdclcdaoidbgbaaPA4
import Derived.Test.YtdclcdaoidbgbaaH5
namespace Go.Proofs.Ytdclcdaoidbgbaa.PA
open Go.RowKit Go.Proofs.YtdclcdaoidbgbaaW.PrintWords Go.Proofs.YtdclcdaoidbgbaaW.PrintLast Go.Proofs.YtdclcdaoidbgbaaW.PrintMore
attribute [local go_sem] max2_int min2_int max_two min_two max_three min_three max_four min_four   -- for this text's walks alone
set_option linter.unusedVariables false
set_option linter.unusedSimpArgs false

/-! ### flagstonelaw41_SequenceNarrows: function 9 -/
mutual
def flagstonelaw41_SequenceNarrows.j0 : Nat → List (S50) → Int → Int → Option (Bool)
 | 0, _, _, _ => none
 | k + 1, x7, x8, x9 => (sequence_Of.f k x7 x8).bind fun bt292 => ((sequence_Of.f k x7 x9).bind fun bt298 => (if (bt292.1.length : Int) = (x7.length : Int) then (if (bt292.2.length : Int) = (x7.length : Int) then (if (bt298.1.length : Int) = (x7.length : Int) then (flagstonelaw41_SequenceNarrows.j1 k x7 ((bt298.2.length : Int) != (x7.length : Int)) bt292.1 bt292.2 bt298.1 bt298.2) else (flagstonelaw41_SequenceNarrows.j1 k x7 true bt292.1 bt292.2 bt298.1 bt298.2)) else (flagstonelaw41_SequenceNarrows.j1 k x7 true bt292.1 bt292.2 bt298.1 bt298.2)) else (flagstonelaw41_SequenceNarrows.j1 k x7 true bt292.1 bt292.2 bt298.1 bt298.2)))
def flagstonelaw41_SequenceNarrows.j1 : Nat → List (S50) → Bool → List Int → List Int → List Int → List Int → Option (Bool)
 | 0, _, _, _, _, _, _ => none
 | k + 1, x7, x72, x305000, x305001, x306000, x306001 => if x72 = true then (some false) else (flagstonelaw41_SequenceNarrows.l0 k x7 0 x305000 x305001 x306000 x306001)
def flagstonelaw41_SequenceNarrows.l0 : Nat → List (S50) → Int → List Int → List Int → List Int → List Int → Option (Bool)
 | 0, _, _, _, _, _, _ => none
 | k + 1, x7, x12, x305000, x305001, x306000, x306001 => if x12 < (x7.length : Int) then (if x12 > 0 then (if 0 ≤ x12 then (if x12 < (x305000.length : Int) then (if 0 ≤ (wrap64 (x12 - 1)) then (if (wrap64 (x12 - 1)) < (x305000.length : Int) then (if (rd x305000 x12) < (rd x305000 (wrap64 (x12 - 1))) then (flagstonelaw41_SequenceNarrows.j3 k x7 x12 true x305000 x305001 x306000 x306001) else (if x12 < (x305001.length : Int) then (if (wrap64 (x12 - 1)) < (x305001.length : Int) then (if (rd x305001 x12) > (rd x305001 (wrap64 (x12 - 1))) then (flagstonelaw41_SequenceNarrows.j3 k x7 x12 true x305000 x305001 x306000 x306001) else (if x12 < (x306000.length : Int) then (if (rd x305000 x12) > (rd x306000 x12) then (flagstonelaw41_SequenceNarrows.j3 k x7 x12 true x305000 x305001 x306000 x306001) else (if x12 < (x306001.length : Int) then (flagstonelaw41_SequenceNarrows.j3 k x7 x12 (decide ((rd x305001 x12) < (rd x306001 x12))) x305000 x305001 x306000 x306001) else (none))) else (none))) else (none)) else (none))) else (none)) else (none)) else (none)) else (none)) else (if 0 ≤ x12 then (if x12 < (x305000.length : Int) then (if x12 < (x306000.length : Int) then (if (rd x305000 x12) > (rd x306000 x12) then (flagstonelaw41_SequenceNarrows.j3 k x7 x12 true x305000 x305001 x306000 x306001) else (if x12 < (x305001.length : Int) then (if x12 < (x306001.length : Int) then (flagstonelaw41_SequenceNarrows.j3 k x7 x12 (decide ((rd x305001 x12) < (rd x306001 x12))) x305000 x305001 x306000 x306001) else (none)) else (none))) else (none)) else (none)) else (none))) else (some true)
def flagstonelaw41_SequenceNarrows.j3 : Nat → List (S50) → Int → Bool → List Int → List Int → List Int → List Int → Option (Bool)
 | 0, _, _, _, _, _, _, _ => none
 | k + 1, x7, x12, x134, x305000, x305001, x306000, x306001 => if x134 = true then (some false) else (flagstonelaw41_SequenceNarrows.l0 k x7 (wrap64 (x12 + 1)) x305000 x305001 x306000 x306001)
end
def flagstonelaw41_SequenceNarrows.f (k : Nat) (l0 : List Int) (a1 : Int) (a2 : Int) : Option (Bool) := (flagstonelaw41_awake.f k).bind fun t288 => (if t288 = true then (if (l0.length : Int) > 40 then (some true) else ((flagstonedata_Scores.f k l0).bind fun t289 => (if (wrap64 (1 + (Int.tmod (wrap64 (mn a1 a2)) 999))) > (wrap64 (1 + (Int.tmod (wrap64 (mx a1 a2)) 999))) then (flagstonelaw41_SequenceNarrows.j0 k t289 (wrap64 (1 + (Int.tmod (wrap64 (mx a1 a2)) 999))) (wrap64 (1 + (Int.tmod (wrap64 (mn a1 a2)) 999)))) else (flagstonelaw41_SequenceNarrows.j0 k t289 (wrap64 (1 + (Int.tmod (wrap64 (mn a1 a2)) 999))) (wrap64 (1 + (Int.tmod (wrap64 (mx a1 a2)) 999))))))) else (some false))
theorem flagstonelaw41_SequenceNarrows.mono_l : ∀ k, (∀ y0 y1 y2, LeO (flagstonelaw41_SequenceNarrows.j0 k y0 y1 y2) (flagstonelaw41_SequenceNarrows.j0 (k + 1) y0 y1 y2)) ∧ (∀ y0 y1 y2 y3 y4 y5, LeO (flagstonelaw41_SequenceNarrows.j1 k y0 y1 y2 y3 y4 y5) (flagstonelaw41_SequenceNarrows.j1 (k + 1) y0 y1 y2 y3 y4 y5)) ∧ (∀ y0 y1 y2 y3 y4 y5, LeO (flagstonelaw41_SequenceNarrows.l0 k y0 y1 y2 y3 y4 y5) (flagstonelaw41_SequenceNarrows.l0 (k + 1) y0 y1 y2 y3 y4 y5)) ∧ (∀ y0 y1 y2 y3 y4 y5 y6, LeO (flagstonelaw41_SequenceNarrows.j3 k y0 y1 y2 y3 y4 y5 y6) (flagstonelaw41_SequenceNarrows.j3 (k + 1) y0 y1 y2 y3 y4 y5 y6))
 | 0 => ⟨fun _ _ _ r h => by simp [flagstonelaw41_SequenceNarrows.j0] at h, fun _ _ _ _ _ _ r h => by simp [flagstonelaw41_SequenceNarrows.j1] at h, fun _ _ _ _ _ _ r h => by simp [flagstonelaw41_SequenceNarrows.l0] at h, fun _ _ _ _ _ _ _ r h => by simp [flagstonelaw41_SequenceNarrows.j3] at h⟩
 | k + 1 => by
  obtain ⟨ih0, ih1, ih2, ih3⟩ := flagstonelaw41_SequenceNarrows.mono_l k
  refine ⟨?_, ?_, ?_, ?_⟩
  ·intro y0 y1 y2
   unfold flagstonelaw41_SequenceNarrows.j0
   repeat' first
   | (with_reducible exact ih0 _ _ _)
   | (with_reducible exact ih1 _ _ _ _ _ _)
   | (with_reducible exact ih2 _ _ _ _ _ _)
   | (with_reducible exact ih3 _ _ _ _ _ _ _)
   | (with_reducible exact flagstonedata_Scores.mono _ _)
   | (with_reducible exact flagstonelaw41_awake.mono _)
   | (with_reducible exact sequence_Of.mono _ _ _)
   | (with_reducible exact LeO.refl _)
   | (with_reducible exact LeO.none _)
   | (with_reducible refine LeO.ite ?_ ?_)
   | (with_reducible refine LeO.bind ?_ (fun _ => ?_))
   | exact ih0 _ _ _
   | exact ih1 _ _ _ _ _ _
   | exact ih2 _ _ _ _ _ _
   | exact ih3 _ _ _ _ _ _ _
   | exact flagstonedata_Scores.mono _ _
   | exact flagstonelaw41_awake.mono _
   | exact sequence_Of.mono _ _ _
   | exact LeO.none _
   | refine LeO.ite ?_ ?_
   | refine LeO.bind ?_ (fun _ => ?_)
  ·intro y0 y1 y2 y3 y4 y5
   unfold flagstonelaw41_SequenceNarrows.j1
   repeat' first
   | (with_reducible exact ih0 _ _ _)
   | (with_reducible exact ih1 _ _ _ _ _ _)
   | (with_reducible exact ih2 _ _ _ _ _ _)
   | (with_reducible exact ih3 _ _ _ _ _ _ _)
   | (with_reducible exact flagstonedata_Scores.mono _ _)
   | (with_reducible exact flagstonelaw41_awake.mono _)
   | (with_reducible exact sequence_Of.mono _ _ _)
   | (with_reducible exact LeO.refl _)
   | (with_reducible exact LeO.none _)
   | (with_reducible refine LeO.ite ?_ ?_)
   | (with_reducible refine LeO.bind ?_ (fun _ => ?_))
   | exact ih0 _ _ _
   | exact ih1 _ _ _ _ _ _
   | exact ih2 _ _ _ _ _ _
   | exact ih3 _ _ _ _ _ _ _
   | exact flagstonedata_Scores.mono _ _
   | exact flagstonelaw41_awake.mono _
   | exact sequence_Of.mono _ _ _
   | exact LeO.none _
   | refine LeO.ite ?_ ?_
   | refine LeO.bind ?_ (fun _ => ?_)
  ·intro y0 y1 y2 y3 y4 y5
   unfold flagstonelaw41_SequenceNarrows.l0
   repeat' first
   | (with_reducible exact ih0 _ _ _)
   | (with_reducible exact ih1 _ _ _ _ _ _)
   | (with_reducible exact ih2 _ _ _ _ _ _)
   | (with_reducible exact ih3 _ _ _ _ _ _ _)
   | (with_reducible exact flagstonedata_Scores.mono _ _)
   | (with_reducible exact flagstonelaw41_awake.mono _)
   | (with_reducible exact sequence_Of.mono _ _ _)
   | (with_reducible exact LeO.refl _)
   | (with_reducible exact LeO.none _)
   | (with_reducible refine LeO.ite ?_ ?_)
   | (with_reducible refine LeO.bind ?_ (fun _ => ?_))
   | exact ih0 _ _ _
   | exact ih1 _ _ _ _ _ _
   | exact ih2 _ _ _ _ _ _
   | exact ih3 _ _ _ _ _ _ _
   | exact flagstonedata_Scores.mono _ _
   | exact flagstonelaw41_awake.mono _
   | exact sequence_Of.mono _ _ _
   | exact LeO.none _
   | refine LeO.ite ?_ ?_
   | refine LeO.bind ?_ (fun _ => ?_)
  ·intro y0 y1 y2 y3 y4 y5 y6
   unfold flagstonelaw41_SequenceNarrows.j3
   repeat' first
   | (with_reducible exact ih0 _ _ _)
   | (with_reducible exact ih1 _ _ _ _ _ _)
   | (with_reducible exact ih2 _ _ _ _ _ _)
   | (with_reducible exact ih3 _ _ _ _ _ _ _)
   | (with_reducible exact flagstonedata_Scores.mono _ _)
   | (with_reducible exact flagstonelaw41_awake.mono _)
   | (with_reducible exact sequence_Of.mono _ _ _)
   | (with_reducible exact LeO.refl _)
   | (with_reducible exact LeO.none _)
   | (with_reducible refine LeO.ite ?_ ?_)
   | (with_reducible refine LeO.bind ?_ (fun _ => ?_))
   | exact ih0 _ _ _
   | exact ih1 _ _ _ _ _ _
   | exact ih2 _ _ _ _ _ _
   | exact ih3 _ _ _ _ _ _ _
   | exact flagstonedata_Scores.mono _ _
   | exact flagstonelaw41_awake.mono _
   | exact sequence_Of.mono _ _ _
   | exact LeO.none _
   | refine LeO.ite ?_ ?_
   | refine LeO.bind ?_ (fun _ => ?_)
theorem flagstonelaw41_SequenceNarrows.mono : ∀ a0 a1 a2 k, LeO (flagstonelaw41_SequenceNarrows.f k a0 a1 a2) (flagstonelaw41_SequenceNarrows.f (k + 1) a0 a1 a2) := by
 intro a0 a1 a2 k
 obtain ⟨ih0, ih1, ih2, ih3⟩ := flagstonelaw41_SequenceNarrows.mono_l k
 unfold flagstonelaw41_SequenceNarrows.f
 repeat' first
   | (with_reducible exact ih0 _ _ _)
   | (with_reducible exact ih1 _ _ _ _ _ _)
   | (with_reducible exact ih2 _ _ _ _ _ _)
   | (with_reducible exact ih3 _ _ _ _ _ _ _)
   | (with_reducible exact flagstonedata_Scores.mono _ _)
   | (with_reducible exact flagstonelaw41_awake.mono _)
   | (with_reducible exact sequence_Of.mono _ _ _)
   | (with_reducible exact LeO.refl _)
   | (with_reducible exact LeO.none _)
   | (with_reducible refine LeO.ite ?_ ?_)
   | (with_reducible refine LeO.bind ?_ (fun _ => ?_))
   | exact ih0 _ _ _
   | exact ih1 _ _ _ _ _ _
   | exact ih2 _ _ _ _ _ _
   | exact ih3 _ _ _ _ _ _ _
   | exact flagstonedata_Scores.mono _ _
   | exact flagstonelaw41_awake.mono _
   | exact sequence_Of.mono _ _ _
   | exact LeO.none _
   | refine LeO.ite ?_ ?_
   | refine LeO.bind ?_ (fun _ => ?_)
set_option maxHeartbeats 8000000 in
set_option maxRecDepth 100000 in
theorem flagstonelaw41_SequenceNarrows.calls (k : Nat) (A0 : Option Addr) (c0 : Nat) (l0 : List Int) (a1 : Int) (a2 : Int) (r : Bool) (w : World) (hr0 : Kd.C (Kd.int .u8) w A0 l0.length l0) (hc0 : l0.length ≤ c0) (h : flagstonelaw41_SequenceNarrows.f k l0 a1 a2 = some r) :
  Calls Try.prog 9 #[.slice A0 l0.length c0, .int .u16 a1, .int .u16 a2] w fun e w' => e = .returned (.bool r) ∧ Below w.heap.size w w' := by
 have hu27 := Try.underlying27
 have HR0 := Aside0.mk hr0
 have HC0 := Aside0.mk hc0
 clear hr0 hc0
 have HB := Aside0.mk (Below.refl w.heap.size w)
 have H : ((flagstonelaw41_awake.f k).bind fun t288 => (if t288 = true then (if (l0.length : Int) > 40 then (some true) else ((flagstonedata_Scores.f k l0).bind fun t289 => (if (wrap64 (1 + (Int.tmod (wrap64 (mn a1 a2)) 999))) > (wrap64 (1 + (Int.tmod (wrap64 (mx a1 a2)) 999))) then (flagstonelaw41_SequenceNarrows.j0 k t289 (wrap64 (1 + (Int.tmod (wrap64 (mx a1 a2)) 999))) (wrap64 (1 + (Int.tmod (wrap64 (mn a1 a2)) 999)))) else (flagstonelaw41_SequenceNarrows.j0 k t289 (wrap64 (1 + (Int.tmod (wrap64 (mn a1 a2)) 999))) (wrap64 (1 + (Int.tmod (wrap64 (mx a1 a2)) 999))))))) else (some false))) = some r := h
 clear h
 replace H := Option.bind_eq_some_iff.mp H
 obtain ⟨t288, A40, H⟩ := H
 replace H : (if t288 = true then (if (l0.length : Int) > 40 then (some true) else ((flagstonedata_Scores.f k l0).bind fun t289 => (if (wrap64 (1 + (Int.tmod (wrap64 (mn a1 a2)) 999))) > (wrap64 (1 + (Int.tmod (wrap64 (mx a1 a2)) 999))) then (flagstonelaw41_SequenceNarrows.j0 k t289 (wrap64 (1 + (Int.tmod (wrap64 (mx a1 a2)) 999))) (wrap64 (1 + (Int.tmod (wrap64 (mn a1 a2)) 999)))) else (flagstonelaw41_SequenceNarrows.j0 k t289 (wrap64 (1 + (Int.tmod (wrap64 (mn a1 a2)) 999))) (wrap64 (1 + (Int.tmod (wrap64 (mx a1 a2)) 999))))))) else (some false)) = some r := H
 have A4 := Aside0.mk A40
 clear A40
 by_cases c5 : t288 = true
 ·subst c5
  have H1 : (if (l0.length : Int) > 40 then (some true) else ((flagstonedata_Scores.f k l0).bind fun t289 => (if (wrap64 (1 + (Int.tmod (wrap64 (mn a1 a2)) 999))) > (wrap64 (1 + (Int.tmod (wrap64 (mx a1 a2)) 999))) then (flagstonelaw41_SequenceNarrows.j0 k t289 (wrap64 (1 + (Int.tmod (wrap64 (mx a1 a2)) 999))) (wrap64 (1 + (Int.tmod (wrap64 (mn a1 a2)) 999)))) else (flagstonelaw41_SequenceNarrows.j0 k t289 (wrap64 (1 + (Int.tmod (wrap64 (mn a1 a2)) 999))) (wrap64 (1 + (Int.tmod (wrap64 (mx a1 a2)) 999))))))) = some r := by rw [if_pos rfl] at H; exact H
  clear H
  have H := H1
  clear H1
  by_cases c6 : (l0.length : Int) > 40
  ·rw [if_pos c6] at H
   have c6b0 : decide (40 < (l0.length : Int)) = true := decide_eq_true c6
   have c6b1 : decide (40 < l0.length) = true := decide_eq_true (by omega)
   clear c6
   obtain rfl := Option.some.inj H
   go_enter Try.func9, Try.ntmps9
   go_wp2_with (first | (go_at_call 10; (with_reducible refine (flagstonelaw41_awake.calls k  true _ A4.out).mono ?_); rintro e w7 ⟨rfl, hb⟩; have n0_ := Aside0.mk (below_step (by repeat (first | (with_reducible first | exact HB.out | apply below_alloc | apply pw_below_drewN | apply below_drew1) | exact HB.out)) hb); clear HB; have HB := n0_; clear n0_; (try clear hb); (try clear hb2); (try clear hk); (try clear hi)))
   repeat (go_quiet (first | (go_at_call 10; (with_reducible refine (flagstonelaw41_awake.calls k  true _ A4.out).mono ?_); rintro e w7 ⟨rfl, hb⟩; have n0_ := Aside0.mk (below_step (by repeat (first | (with_reducible first | exact HB.out | apply below_alloc | apply pw_below_drewN | apply below_drew1) | exact HB.out)) hb); clear HB; have HB := n0_; clear n0_; (try clear hb); (try clear hb2); (try clear hk); (try clear hi))); try go_wp2_with (first | (go_at_call 10; (with_reducible refine (flagstonelaw41_awake.calls k  true _ A4.out).mono ?_); rintro e w7 ⟨rfl, hb⟩; have n0_ := Aside0.mk (below_step (by repeat (first | (with_reducible first | exact HB.out | apply below_alloc | apply pw_below_drewN | apply below_drew1) | exact HB.out)) hb); clear HB; have HB := n0_; clear n0_; (try clear hb); (try clear hb2); (try clear hk); (try clear hi))))
   go_ret
   exact ⟨by first | rfl | (simp [errW_none, errW_some] <;> rfl) | (simp [*, errW_none, errW_some] <;> rfl), by repeat (first | (with_reducible first | exact HB.out | apply below_alloc | apply pw_below_drewN | apply below_drew1) | exact HB.out)⟩
  ·rw [if_neg c6] at H
   have c6b0 : decide (40 < (l0.length : Int)) = false := decide_eq_false c6
   have c6b1 : decide (40 < l0.length) = false := decide_eq_false (by omega)
   clear c6
   replace H := Option.bind_eq_some_iff.mp H
   obtain ⟨t289, A80, H⟩ := H
   replace H : (if (wrap64 (1 + (Int.tmod (wrap64 (mn a1 a2)) 999))) > (wrap64 (1 + (Int.tmod (wrap64 (mx a1 a2)) 999))) then (flagstonelaw41_SequenceNarrows.j0 k t289 (wrap64 (1 + (Int.tmod (wrap64 (mx a1 a2)) 999))) (wrap64 (1 + (Int.tmod (wrap64 (mn a1 a2)) 999)))) else (flagstonelaw41_SequenceNarrows.j0 k t289 (wrap64 (1 + (Int.tmod (wrap64 (mn a1 a2)) 999))) (wrap64 (1 + (Int.tmod (wrap64 (mx a1 a2)) 999))))) = some r := H
   have A8 := Aside0.mk A80
   clear A80
   obtain ⟨ji9, hji9⟩ : ∃ j_ : Int, (mn a1 a2) = j_ := ⟨_, rfl⟩
   replace H : (if (wrap64 (1 + (Int.tmod (wrap64 (ji9)) 999))) > (wrap64 (1 + (Int.tmod (wrap64 (mx a1 a2)) 999))) then (flagstonelaw41_SequenceNarrows.j0 k t289 (wrap64 (1 + (Int.tmod (wrap64 (mx a1 a2)) 999))) (wrap64 (1 + (Int.tmod (wrap64 (ji9)) 999)))) else (flagstonelaw41_SequenceNarrows.j0 k t289 (wrap64 (1 + (Int.tmod (wrap64 (ji9)) 999))) (wrap64 (1 + (Int.tmod (wrap64 (mx a1 a2)) 999))))) = some r := by first | (rw [hji9] at H; exact H) | (simp only [hji9] at H ⊢; exact H)
   (try rw [hji9] at A4)
   (try rw [hji9] at A8)
   have hji9_ : (if a2 < a1 then a2 else a1) = ji9 := hji9
   obtain ⟨ji10, hji10⟩ : ∃ j_ : Int, (mx a1 a2) = j_ := ⟨_, rfl⟩
   replace H : (if (wrap64 (1 + (Int.tmod (wrap64 (ji9)) 999))) > (wrap64 (1 + (Int.tmod (wrap64 (ji10)) 999))) then (flagstonelaw41_SequenceNarrows.j0 k t289 (wrap64 (1 + (Int.tmod (wrap64 (ji10)) 999))) (wrap64 (1 + (Int.tmod (wrap64 (ji9)) 999)))) else (flagstonelaw41_SequenceNarrows.j0 k t289 (wrap64 (1 + (Int.tmod (wrap64 (ji9)) 999))) (wrap64 (1 + (Int.tmod (wrap64 (ji10)) 999))))) = some r := by first | (rw [hji10] at H; exact H) | (simp only [hji10] at H ⊢; exact H)
   (try rw [hji10] at A4)
   (try rw [hji10] at A8)
   have hji10_ : (if a1 < a2 then a2 else a1) = ji10 := hji10
   have HC11 := Aside0.mk H
   clear H
   go_enter Try.func9, Try.ntmps9
   go_upto_if 34 with (first | (go_at_call 10; (with_reducible refine (flagstonelaw41_awake.calls k  true _ A4.out).mono ?_); rintro e w12 ⟨rfl, hb⟩; have n0_ := Aside0.mk (below_step (by repeat (first | (with_reducible first | exact HB.out | apply below_alloc | apply pw_below_drewN | apply below_drew1) | exact HB.out)) hb); clear HB; have HB := n0_; clear n0_; (try clear hb); (try clear hb2); (try clear hk); (try clear hi)) | (go_at_call 11; (with_reducible refine (flagstonedata_Scores.calls k _ _ l0 t289 _ ?side1 ?side2 A8.out).mono ?_); (case side1 => repeat (first | exact (Kd.C_below HR0.out HB.out) | (with_reducible refine Kd.C_alloc ?_ _) | (with_reducible refine Kd.C_drewN ?_ _) | (with_reducible refine Kd.C_drew ?_))); (case side2 => exact HC0.out); rintro e w13 ⟨v290, rfl, ho0, hb⟩; have n0_ := Aside0.mk (Kd.R_lower ho0 (below_size (by repeat (first | (with_reducible first | exact HB.out | apply below_alloc | apply pw_below_drewN | apply below_drew1) | exact HB.out)))); have n1_ := Aside0.mk (below_step (by repeat (first | (with_reducible first | exact HB.out | apply below_alloc | apply pw_below_drewN | apply below_drew1) | exact HB.out)) hb); clear HB; have HO291 := n0_; have HB := n1_; clear n0_ n1_; (try clear hb); (try clear hb2); (try clear hk); (try clear hi); (try clear ho0)))
   repeat (go_quiet (first | (go_at_call 10; (with_reducible refine (flagstonelaw41_awake.calls k  true _ A4.out).mono ?_); rintro e w12 ⟨rfl, hb⟩; have n0_ := Aside0.mk (below_step (by repeat (first | (with_reducible first | exact HB.out | apply below_alloc | apply pw_below_drewN | apply below_drew1) | exact HB.out)) hb); clear HB; have HB := n0_; clear n0_; (try clear hb); (try clear hb2); (try clear hk); (try clear hi)) | (go_at_call 11; (with_reducible refine (flagstonedata_Scores.calls k _ _ l0 t289 _ ?side1 ?side2 A8.out).mono ?_); (case side1 => repeat (first | exact (Kd.C_below HR0.out HB.out) | (with_reducible refine Kd.C_alloc ?_ _) | (with_reducible refine Kd.C_drewN ?_ _) | (with_reducible refine Kd.C_drew ?_))); (case side2 => exact HC0.out); rintro e w13 ⟨v290, rfl, ho0, hb⟩; have n0_ := Aside0.mk (Kd.R_lower ho0 (below_size (by repeat (first | (with_reducible first | exact HB.out | apply below_alloc | apply pw_below_drewN | apply below_drew1) | exact HB.out)))); have n1_ := Aside0.mk (below_step (by repeat (first | (with_reducible first | exact HB.out | apply below_alloc | apply pw_below_drewN | apply below_drew1) | exact HB.out)) hb); clear HB; have HO291 := n0_; have HB := n1_; clear n0_ n1_; (try clear hb); (try clear hb2); (try clear hk); (try clear hi); (try clear ho0))); go_upto_if 34 with (first | (go_at_call 10; (with_reducible refine (flagstonelaw41_awake.calls k  true _ A4.out).mono ?_); rintro e w12 ⟨rfl, hb⟩; have n0_ := Aside0.mk (below_step (by repeat (first | (with_reducible first | exact HB.out | apply below_alloc | apply pw_below_drewN | apply below_drew1) | exact HB.out)) hb); clear HB; have HB := n0_; clear n0_; (try clear hb); (try clear hb2); (try clear hk); (try clear hi)) | (go_at_call 11; (with_reducible refine (flagstonedata_Scores.calls k _ _ l0 t289 _ ?side1 ?side2 A8.out).mono ?_); (case side1 => repeat (first | exact (Kd.C_below HR0.out HB.out) | (with_reducible refine Kd.C_alloc ?_ _) | (with_reducible refine Kd.C_drewN ?_ _) | (with_reducible refine Kd.C_drew ?_))); (case side2 => exact HC0.out); rintro e w13 ⟨v290, rfl, ho0, hb⟩; have n0_ := Aside0.mk (Kd.R_lower ho0 (below_size (by repeat (first | (with_reducible first | exact HB.out | apply below_alloc | apply pw_below_drewN | apply below_drew1) | exact HB.out)))); have n1_ := Aside0.mk (below_step (by repeat (first | (with_reducible first | exact HB.out | apply below_alloc | apply pw_below_drewN | apply below_drew1) | exact HB.out)) hb); clear HB; have HO291 := n0_; have HB := n1_; clear n0_ n1_; (try clear hb); (try clear hb2); (try clear hk); (try clear hi); (try clear ho0))))
   (try simp only [Act.put, List.setIfInBounds_toArray, List.set_cons_zero, List.set_cons_succ])
   go_cut [8, 9] (fun v8 v9 wc => ∃ (kq : Nat) (x8_10 : Int) (x9_10 : Int), v8 = .int .i64 x8_10 ∧ v9 = .int .i64 x9_10 ∧ Aside0 (flagstonelaw41_SequenceNarrows.j0 kq t289 x8_10 x9_10 = some r) ∧ Aside0 (kq ≤ k) ∧ Aside0 (Kd.R k50 50 wc w.heap.size (fun _ => True) v290 t289) ∧ Aside0 (Below w.heap.size w wc))
   case first =>
    have H := HC11.out
    clear HC11
    by_cases c14 : (wrap64 (1 + (Int.tmod (wrap64 (ji9)) 999))) > (wrap64 (1 + (Int.tmod (wrap64 (ji10)) 999)))
    ·rw [if_pos c14] at H
     have c14b0 : decide ((wrap64 (1 + (Int.tmod (wrap64 (ji10)) 999))) < (wrap64 (1 + (Int.tmod (wrap64 (ji9)) 999)))) = true := decide_eq_true c14
     clear c14
     (first | rw [c14b0] | (simp only [i64_w, i32_w]; rw [c14b0]) | skip)
     have H' := Aside0.mk H
     clear H
     go_wp2
     repeat (go_quiet (fail); try go_wp2)
     go_meet
     case rel => exact ⟨_, (wrap64 (1 + (Int.tmod (wrap64 (ji10)) 999))), (wrap64 (1 + (Int.tmod (wrap64 (ji9)) 999))), (by first | rfl | (simp; done) | (simp only [← hji10] <;> (first | rfl | simp)) | (simp [*]; done) | exact congrArg (Value.int _) (by unfold wrap64; omega)), (by first | rfl | (simp; done) | (simp only [← hji9] <;> (first | rfl | simp)) | (simp [*]; done) | exact congrArg (Value.int _) (by unfold wrap64; omega)), H', ⟨by first | omega | exact Nat.le_refl _⟩, ⟨by (with_reducible repeat (first | apply Kd.R_alloc | apply Kd.R_drewN | apply Kd.R_drew)); exact HO291.out⟩, ⟨by repeat (first | (with_reducible first | exact HB.out | apply below_alloc | apply pw_below_drewN | apply below_drew1) | exact HB.out)⟩⟩
    ·rw [if_neg c14] at H
     have c14b0 : decide ((wrap64 (1 + (Int.tmod (wrap64 (ji10)) 999))) < (wrap64 (1 + (Int.tmod (wrap64 (ji9)) 999)))) = false := decide_eq_false c14
     clear c14
     (first | rw [c14b0] | (simp only [i64_w, i32_w]; rw [c14b0]) | skip)
     have H' := Aside0.mk H
     clear H
     go_wp2
     repeat (go_quiet (fail); try go_wp2)
     go_meet
     case rel => exact ⟨_, (wrap64 (1 + (Int.tmod (wrap64 (ji9)) 999))), (wrap64 (1 + (Int.tmod (wrap64 (ji10)) 999))), (by first | rfl | (simp; done) | (simp only [← hji9] <;> (first | rfl | simp)) | (simp [*]; done) | exact congrArg (Value.int _) (by unfold wrap64; omega)), (by first | rfl | (simp; done) | (simp only [← hji10] <;> (first | rfl | simp)) | (simp [*]; done) | exact congrArg (Value.int _) (by unfold wrap64; omega)), H', ⟨by first | omega | exact Nat.le_refl _⟩, ⟨by (with_reducible repeat (first | apply Kd.R_alloc | apply Kd.R_drewN | apply Kd.R_drew)); exact HO291.out⟩, ⟨by repeat (first | (with_reducible first | exact HB.out | apply below_alloc | apply pw_below_drewN | apply below_drew1) | exact HB.out)⟩⟩
   case rest =>
    clear HC11
    try clear c1
    try clear p2
    try clear c5
    try clear c6
    try clear c6b0
    try clear c6b1
    try clear p6
    try clear c9
    try clear c14
    try clear c14b0
    obtain ⟨kq, x8_10, x9_10, rfl, rfl, HA, HJ10, HO_7, HB⟩ := hcut
    cases kq with
    | zero => exact absurd HA.out (by simp [flagstonelaw41_SequenceNarrows.j0])
    | succ kj10 =>
     have H := HA.out
     clear HA
     simp only [flagstonelaw41_SequenceNarrows.j0] at H
     replace H := Option.bind_eq_some_iff.mp H
     obtain ⟨⟨t292, t295⟩, A150, H⟩ := H
     replace H : ((sequence_Of.f kj10 t289 x9_10).bind fun bt298 => (if (t292.length : Int) = (t289.length : Int) then (if (t295.length : Int) = (t289.length : Int) then (if (bt298.1.length : Int) = (t289.length : Int) then (flagstonelaw41_SequenceNarrows.j1 kj10 t289 ((bt298.2.length : Int) != (t289.length : Int)) t292 t295 bt298.1 bt298.2) else (flagstonelaw41_SequenceNarrows.j1 kj10 t289 true t292 t295 bt298.1 bt298.2)) else (flagstonelaw41_SequenceNarrows.j1 kj10 t289 true t292 t295 bt298.1 bt298.2)) else (flagstonelaw41_SequenceNarrows.j1 kj10 t289 true t292 t295 bt298.1 bt298.2))) = some r := H
     have A15 := Aside0.mk A150
     clear A150
     replace H := Option.bind_eq_some_iff.mp H
     obtain ⟨⟨t298, t301⟩, A160, H⟩ := H
     replace H : (if (t292.length : Int) = (t289.length : Int) then (if (t295.length : Int) = (t289.length : Int) then (if (t298.length : Int) = (t289.length : Int) then (flagstonelaw41_SequenceNarrows.j1 kj10 t289 ((t301.length : Int) != (t289.length : Int)) t292 t295 t298 t301) else (flagstonelaw41_SequenceNarrows.j1 kj10 t289 true t292 t295 t298 t301)) else (flagstonelaw41_SequenceNarrows.j1 kj10 t289 true t292 t295 t298 t301)) else (flagstonelaw41_SequenceNarrows.j1 kj10 t289 true t292 t295 t298 t301)) = some r := H
     have A16 := Aside0.mk A160
     clear A160
     have HC17 := Aside0.mk H
     clear H
     obtain ⟨Ao18, co18, eo18⟩ := Kd.R_slice HO_7.out
     subst eo18
     go_upto_region 10 with (first | (go_at_call 12; (with_reducible refine (sequence_Of.calls kj10 _ _ t289 x8_10 t292 t295 _ ?side1 ?side2 A15.out).mono ?_); (case side1 => repeat (first | exact (Kd.R_reads' HO_7.out).2.2 | (with_reducible refine Kd.C_alloc ?_ _) | (with_reducible refine Kd.C_drewN ?_ _) | (with_reducible refine Kd.C_drew ?_))); (case side2 => exact (Kd.R_reads' HO_7.out).2.1); rintro e w19 ⟨v293, v296, rfl, ho0, ho1, hb⟩; have n0_ := Aside0.mk (Kd.R_below (by (with_reducible repeat (first | apply Kd.R_alloc | apply Kd.R_drewN | apply Kd.R_drew)); exact HO_7.out) hb); have n1_ := Aside0.mk (Kd.R_lower ho0 (below_size (by repeat (first | (with_reducible first | exact HB.out | apply below_alloc | apply pw_below_drewN | apply below_drew1) | exact HB.out)))); have n2_ := Aside0.mk (Kd.R_lower ho1 (below_size (by repeat (first | (with_reducible first | exact HB.out | apply below_alloc | apply pw_below_drewN | apply below_drew1) | exact HB.out)))); have n3_ := Aside0.mk (below_step (by repeat (first | (with_reducible first | exact HB.out | apply below_alloc | apply pw_below_drewN | apply below_drew1) | exact HB.out)) hb); clear HO_7; clear HB; have HO_7 := n0_; have HO294 := n1_; have HO297 := n2_; have HB := n3_; clear n0_ n1_ n2_ n3_; (try clear hb); (try clear hb2); (try clear hk); (try clear hi); (try clear ho0); (try clear ho1)) | (go_at_call 12; (with_reducible refine (sequence_Of.calls kj10 _ _ t289 x9_10 t298 t301 _ ?side1 ?side2 A16.out).mono ?_); (case side1 => repeat (first | exact (Kd.R_reads' HO_7.out).2.2 | (with_reducible refine Kd.C_alloc ?_ _) | (with_reducible refine Kd.C_drewN ?_ _) | (with_reducible refine Kd.C_drew ?_))); (case side2 => exact (Kd.R_reads' HO_7.out).2.1); rintro e w20 ⟨v299, v302, rfl, ho0, ho1, hb⟩; have n0_ := Aside0.mk (Kd.R_below (by (with_reducible repeat (first | apply Kd.R_alloc | apply Kd.R_drewN | apply Kd.R_drew)); exact HO_7.out) hb); have n1_ := Aside0.mk (Kd.R_mono (Kd.R_told (Kd.R_told (Kd.R_old (by (with_reducible repeat (first | apply Kd.R_alloc | apply Kd.R_drewN | apply Kd.R_drew)); exact HO294.out) hb) (Kd.R_base ho0)) (Kd.R_base ho1)) (fun _ h_ => h_.1)); have n2_ := Aside0.mk (Kd.R_mono (Kd.R_told (Kd.R_told (Kd.R_old (by (with_reducible repeat (first | apply Kd.R_alloc | apply Kd.R_drewN | apply Kd.R_drew)); exact HO297.out) hb) (Kd.R_base ho0)) (Kd.R_base ho1)) (fun _ h_ => h_.1)); have n3_ := Aside0.mk (Kd.R_lower (Kd.R_new' (Kd.R_new' ho0 (Kd.R_lt (by (with_reducible repeat (first | apply Kd.R_alloc | apply Kd.R_drewN | apply Kd.R_drew)); exact HO294.out))) (Kd.R_lt (by (with_reducible repeat (first | apply Kd.R_alloc | apply Kd.R_drewN | apply Kd.R_drew)); exact HO297.out))) (below_size (by repeat (first | (with_reducible first | exact HB.out | apply below_alloc | apply pw_below_drewN | apply below_drew1) | exact HB.out)))); have n4_ := Aside0.mk (Kd.R_lower (Kd.R_new' (Kd.R_new' ho1 (Kd.R_lt (by (with_reducible repeat (first | apply Kd.R_alloc | apply Kd.R_drewN | apply Kd.R_drew)); exact HO294.out))) (Kd.R_lt (by (with_reducible repeat (first | apply Kd.R_alloc | apply Kd.R_drewN | apply Kd.R_drew)); exact HO297.out))) (below_size (by repeat (first | (with_reducible first | exact HB.out | apply below_alloc | apply pw_below_drewN | apply below_drew1) | exact HB.out)))); have n5_ := Aside0.mk (below_step (by repeat (first | (with_reducible first | exact HB.out | apply below_alloc | apply pw_below_drewN | apply below_drew1) | exact HB.out)) hb); clear HO_7; clear HO294; clear HO297; clear HB; have HO_7 := n0_; have HO294 := n1_; have HO297 := n2_; have HO300 := n3_; have HO303 := n4_; have HB := n5_; clear n0_ n1_ n2_ n3_ n4_ n5_; (try clear hb); (try clear hb2); (try clear hk); (try clear hi); (try clear ho0); (try clear ho1)) | ((with_reducible refine gate_dst (N := 10) rfl ?_); (try (refine gate_guard (by rfl) ?_; dsimp only)); refine box_event ?hg (N := 10) ?hd (cs := #[.slice none 0 0, .slice none 0 0]) (t := 27) ?hr ?_; (case hd => rfl); (case hg => rfl); (case hr => first | (go_simp; done) | (go_simp; rfl)); intro gb304 hg w21 hbox hb; have n0_ := Aside0.mk (Kd.R_below (by (with_reducible repeat (first | apply Kd.R_alloc | apply Kd.R_drewN | apply Kd.R_drew)); exact HO_7.out) hb); have n1_ := Aside0.mk (Kd.R_below (by (with_reducible repeat (first | apply Kd.R_alloc | apply Kd.R_drewN | apply Kd.R_drew)); exact HO294.out) hb); have n2_ := Aside0.mk (Kd.R_below (by (with_reducible repeat (first | apply Kd.R_alloc | apply Kd.R_drewN | apply Kd.R_drew)); exact HO297.out) hb); have n3_ := Aside0.mk (Kd.R_below (by (with_reducible repeat (first | apply Kd.R_alloc | apply Kd.R_drewN | apply Kd.R_drew)); exact HO300.out) hb); have n4_ := Aside0.mk (Kd.R_below (by (with_reducible repeat (first | apply Kd.R_alloc | apply Kd.R_drewN | apply Kd.R_drew)); exact HO303.out) hb); have n5_ := Aside0.mk (below_step (by repeat (first | (with_reducible first | exact HB.out | apply below_alloc | apply pw_below_drewN | apply below_drew1) | exact HB.out)) hb); have n6_ := Aside0.mk (hbox); have n7_ := Aside0.mk ((by rw [hg]; exact (below_size (by repeat (first | (with_reducible first | exact HB.out | apply below_alloc | apply pw_below_drewN | apply below_drew1) | exact HB.out))) : w.heap.size ≤ gb304)); have n8_ := Aside0.mk ((by rw [hg]; exact (below_size (by repeat (first | (with_reducible first | exact HB.out | apply below_alloc | apply pw_below_drewN | apply below_drew1) | exact HB.out))) : w.heap.size ≤ gb304)); clear HO_7; clear HO294; clear HO297; clear HO300; clear HO303; clear HB; have HO_7 := n0_; have HO294 := n1_; have HO297 := n2_; have HO300 := n3_; have HO303 := n4_; have HB := n5_; have BK304 := n6_; have GW304 := n7_; have GE304 := n8_; clear n0_ n1_ n2_ n3_ n4_ n5_ n6_ n7_ n8_; clear hb hbox hg) | ((with_reducible refine gate_dst (N := 11) rfl ?_); (try (refine gate_guard (by rfl) ?_; dsimp only)); refine box_event ?hg (N := 11) ?hd (cs := #[.slice none 0 0, .slice none 0 0]) (t := 27) ?hr ?_; (case hd => rfl); (case hg => rfl); (case hr => first | (go_simp; done) | (go_simp; rfl)); intro gb305 hg w22 hbox hb; have n0_ := Aside0.mk (Kd.R_below (by (with_reducible repeat (first | apply Kd.R_alloc | apply Kd.R_drewN | apply Kd.R_drew)); exact HO_7.out) hb); have n1_ := Aside0.mk (Kd.R_below (by (with_reducible repeat (first | apply Kd.R_alloc | apply Kd.R_drewN | apply Kd.R_drew)); exact HO294.out) hb); have n2_ := Aside0.mk (Kd.R_below (by (with_reducible repeat (first | apply Kd.R_alloc | apply Kd.R_drewN | apply Kd.R_drew)); exact HO297.out) hb); have n3_ := Aside0.mk (Kd.R_below (by (with_reducible repeat (first | apply Kd.R_alloc | apply Kd.R_drewN | apply Kd.R_drew)); exact HO300.out) hb); have n4_ := Aside0.mk (Kd.R_below (by (with_reducible repeat (first | apply Kd.R_alloc | apply Kd.R_drewN | apply Kd.R_drew)); exact HO303.out) hb); have n5_ := Aside0.mk (blk_below (g := gb304) (o := .cells #[.slice none 0 0, .slice none 0 0] 27 (0, 0)) (by (with_reducible repeat (first | refine blk_drewN ?_ _ | refine blk_drew ?_ | refine blk_alloc ?_ _)); exact BK304.out) hb); have n6_ := Aside0.mk (below_step (by repeat (first | (with_reducible first | exact HB.out | apply below_alloc | apply pw_below_drewN | apply below_drew1 | refine below_set ?_ GE304.out) | exact HB.out)) hb); have n7_ := Aside0.mk (hbox); have n8_ := Aside0.mk ((by rw [hg]; exact (below_size (by repeat (first | (with_reducible first | exact HB.out | apply below_alloc | apply pw_below_drewN | apply below_drew1 | refine below_set ?_ GE304.out) | exact HB.out))) : w.heap.size ≤ gb305)); have n9_ := Aside0.mk ((by rw [hg]; exact (below_size (by repeat (first | (with_reducible first | exact HB.out | apply below_alloc | apply pw_below_drewN | apply below_drew1 | refine below_set ?_ GE304.out) | exact HB.out))) : w.heap.size ≤ gb305)); have n10_ := Aside0.mk ((by rw [hg]; exact Nat.ne_of_lt (blk_lt (g := gb304) (o := .cells #[.slice none 0 0, .slice none 0 0] 27 (0, 0)) (by (with_reducible repeat (first | refine blk_drewN ?_ _ | refine blk_drew ?_ | refine blk_alloc ?_ _)); exact BK304.out)) : gb304 ≠ gb305)); have n11_ := Aside0.mk ((by rw [hg]; exact Nat.ne_of_gt (blk_lt (g := gb304) (o := .cells #[.slice none 0 0, .slice none 0 0] 27 (0, 0)) (by (with_reducible repeat (first | refine blk_drewN ?_ _ | refine blk_drew ?_ | refine blk_alloc ?_ _)); exact BK304.out)) : gb305 ≠ gb304)); clear HO_7; clear HO294; clear HO297; clear HO300; clear HO303; clear BK304; clear HB; have HO_7 := n0_; have HO294 := n1_; have HO297 := n2_; have HO300 := n3_; have HO303 := n4_; have BK304 := n5_; have HB := n6_; have BK305 := n7_; have GW305 := n8_; have GE305 := n9_; have NB304_305 := n10_; have NB305_304 := n11_; clear n0_ n1_ n2_ n3_ n4_ n5_ n6_ n7_ n8_ n9_ n10_ n11_; clear hb hbox hg; obtain ⟨Ao23, co23, eo23⟩ := Kd.R_slice HO294.out; subst eo23; have hnb24 := NB304_305.out; have hnc24 := NB305_304.out; have hcz25_0 : w22.cell? ⟨gb304, 0, none⟩ = some (.slice none 0 0) := (blk_cell BK304.out 0).trans rfl; have hcz25_1 : w22.cell? ⟨gb304, 1, none⟩ = some (.slice none 0 0) := (blk_cell BK304.out 1).trans rfl; have hfz25_0 := blk_frozen BK304.out 0; have hfz25_1 := blk_frozen BK304.out 1; obtain ⟨Ao26, co26, eo26⟩ := Kd.R_slice HO297.out; subst eo26; obtain ⟨Ao27, co27, eo27⟩ := Kd.R_slice HO300.out; subst eo27; have hcz28_0 : w22.cell? ⟨gb305, 0, none⟩ = some (.slice none 0 0) := (blk_cell BK305.out 0).trans rfl; have hcz28_1 : w22.cell? ⟨gb305, 1, none⟩ = some (.slice none 0 0) := (blk_cell BK305.out 1).trans rfl; have hfz28_0 := blk_frozen BK305.out 0; have hfz28_1 := blk_frozen BK305.out 1; obtain ⟨Ao29, co29, eo29⟩ := Kd.R_slice HO303.out; subst eo29))
     repeat (go_quiet (first | (go_at_call 12; (with_reducible refine (sequence_Of.calls kj10 _ _ t289 x8_10 t292 t295 _ ?side1 ?side2 A15.out).mono ?_); (case side1 => repeat (first | exact (Kd.R_reads' HO_7.out).2.2 | (with_reducible refine Kd.C_alloc ?_ _) | (with_reducible refine Kd.C_drewN ?_ _) | (with_reducible refine Kd.C_drew ?_))); (case side2 => exact (Kd.R_reads' HO_7.out).2.1); rintro e w19 ⟨v293, v296, rfl, ho0, ho1, hb⟩; have n0_ := Aside0.mk (Kd.R_below (by (with_reducible repeat (first | apply Kd.R_alloc | apply Kd.R_drewN | apply Kd.R_drew)); exact HO_7.out) hb); have n1_ := Aside0.mk (Kd.R_lower ho0 (below_size (by repeat (first | (with_reducible first | exact HB.out | apply below_alloc | apply pw_below_drewN | apply below_drew1) | exact HB.out)))); have n2_ := Aside0.mk (Kd.R_lower ho1 (below_size (by repeat (first | (with_reducible first | exact HB.out | apply below_alloc | apply pw_below_drewN | apply below_drew1) | exact HB.out)))); have n3_ := Aside0.mk (below_step (by repeat (first | (with_reducible first | exact HB.out | apply below_alloc | apply pw_below_drewN | apply below_drew1) | exact HB.out)) hb); clear HO_7; clear HB; have HO_7 := n0_; have HO294 := n1_; have HO297 := n2_; have HB := n3_; clear n0_ n1_ n2_ n3_; (try clear hb); (try clear hb2); (try clear hk); (try clear hi); (try clear ho0); (try clear ho1)) | (go_at_call 12; (with_reducible refine (sequence_Of.calls kj10 _ _ t289 x9_10 t298 t301 _ ?side1 ?side2 A16.out).mono ?_); (case side1 => repeat (first | exact (Kd.R_reads' HO_7.out).2.2 | (with_reducible refine Kd.C_alloc ?_ _) | (with_reducible refine Kd.C_drewN ?_ _) | (with_reducible refine Kd.C_drew ?_))); (case side2 => exact (Kd.R_reads' HO_7.out).2.1); rintro e w20 ⟨v299, v302, rfl, ho0, ho1, hb⟩; have n0_ := Aside0.mk (Kd.R_below (by (with_reducible repeat (first | apply Kd.R_alloc | apply Kd.R_drewN | apply Kd.R_drew)); exact HO_7.out) hb); have n1_ := Aside0.mk (Kd.R_mono (Kd.R_told (Kd.R_told (Kd.R_old (by (with_reducible repeat (first | apply Kd.R_alloc | apply Kd.R_drewN | apply Kd.R_drew)); exact HO294.out) hb) (Kd.R_base ho0)) (Kd.R_base ho1)) (fun _ h_ => h_.1)); have n2_ := Aside0.mk (Kd.R_mono (Kd.R_told (Kd.R_told (Kd.R_old (by (with_reducible repeat (first | apply Kd.R_alloc | apply Kd.R_drewN | apply Kd.R_drew)); exact HO297.out) hb) (Kd.R_base ho0)) (Kd.R_base ho1)) (fun _ h_ => h_.1)); have n3_ := Aside0.mk (Kd.R_lower (Kd.R_new' (Kd.R_new' ho0 (Kd.R_lt (by (with_reducible repeat (first | apply Kd.R_alloc | apply Kd.R_drewN | apply Kd.R_drew)); exact HO294.out))) (Kd.R_lt (by (with_reducible repeat (first | apply Kd.R_alloc | apply Kd.R_drewN | apply Kd.R_drew)); exact HO297.out))) (below_size (by repeat (first | (with_reducible first | exact HB.out | apply below_alloc | apply pw_below_drewN | apply below_drew1) | exact HB.out)))); have n4_ := Aside0.mk (Kd.R_lower (Kd.R_new' (Kd.R_new' ho1 (Kd.R_lt (by (with_reducible repeat (first | apply Kd.R_alloc | apply Kd.R_drewN | apply Kd.R_drew)); exact HO294.out))) (Kd.R_lt (by (with_reducible repeat (first | apply Kd.R_alloc | apply Kd.R_drewN | apply Kd.R_drew)); exact HO297.out))) (below_size (by repeat (first | (with_reducible first | exact HB.out | apply below_alloc | apply pw_below_drewN | apply below_drew1) | exact HB.out)))); have n5_ := Aside0.mk (below_step (by repeat (first | (with_reducible first | exact HB.out | apply below_alloc | apply pw_below_drewN | apply below_drew1) | exact HB.out)) hb); clear HO_7; clear HO294; clear HO297; clear HB; have HO_7 := n0_; have HO294 := n1_; have HO297 := n2_; have HO300 := n3_; have HO303 := n4_; have HB := n5_; clear n0_ n1_ n2_ n3_ n4_ n5_; (try clear hb); (try clear hb2); (try clear hk); (try clear hi); (try clear ho0); (try clear ho1)) | ((with_reducible refine gate_dst (N := 10) rfl ?_); (try (refine gate_guard (by rfl) ?_; dsimp only)); refine box_event ?hg (N := 10) ?hd (cs := #[.slice none 0 0, .slice none 0 0]) (t := 27) ?hr ?_; (case hd => rfl); (case hg => rfl); (case hr => first | (go_simp; done) | (go_simp; rfl)); intro gb304 hg w21 hbox hb; have n0_ := Aside0.mk (Kd.R_below (by (with_reducible repeat (first | apply Kd.R_alloc | apply Kd.R_drewN | apply Kd.R_drew)); exact HO_7.out) hb); have n1_ := Aside0.mk (Kd.R_below (by (with_reducible repeat (first | apply Kd.R_alloc | apply Kd.R_drewN | apply Kd.R_drew)); exact HO294.out) hb); have n2_ := Aside0.mk (Kd.R_below (by (with_reducible repeat (first | apply Kd.R_alloc | apply Kd.R_drewN | apply Kd.R_drew)); exact HO297.out) hb); have n3_ := Aside0.mk (Kd.R_below (by (with_reducible repeat (first | apply Kd.R_alloc | apply Kd.R_drewN | apply Kd.R_drew)); exact HO300.out) hb); have n4_ := Aside0.mk (Kd.R_below (by (with_reducible repeat (first | apply Kd.R_alloc | apply Kd.R_drewN | apply Kd.R_drew)); exact HO303.out) hb); have n5_ := Aside0.mk (below_step (by repeat (first | (with_reducible first | exact HB.out | apply below_alloc | apply pw_below_drewN | apply below_drew1) | exact HB.out)) hb); have n6_ := Aside0.mk (hbox); have n7_ := Aside0.mk ((by rw [hg]; exact (below_size (by repeat (first | (with_reducible first | exact HB.out | apply below_alloc | apply pw_below_drewN | apply below_drew1) | exact HB.out))) : w.heap.size ≤ gb304)); have n8_ := Aside0.mk ((by rw [hg]; exact (below_size (by repeat (first | (with_reducible first | exact HB.out | apply below_alloc | apply pw_below_drewN | apply below_drew1) | exact HB.out))) : w.heap.size ≤ gb304)); clear HO_7; clear HO294; clear HO297; clear HO300; clear HO303; clear HB; have HO_7 := n0_; have HO294 := n1_; have HO297 := n2_; have HO300 := n3_; have HO303 := n4_; have HB := n5_; have BK304 := n6_; have GW304 := n7_; have GE304 := n8_; clear n0_ n1_ n2_ n3_ n4_ n5_ n6_ n7_ n8_; clear hb hbox hg) | ((with_reducible refine gate_dst (N := 11) rfl ?_); (try (refine gate_guard (by rfl) ?_; dsimp only)); refine box_event ?hg (N := 11) ?hd (cs := #[.slice none 0 0, .slice none 0 0]) (t := 27) ?hr ?_; (case hd => rfl); (case hg => rfl); (case hr => first | (go_simp; done) | (go_simp; rfl)); intro gb305 hg w22 hbox hb; have n0_ := Aside0.mk (Kd.R_below (by (with_reducible repeat (first | apply Kd.R_alloc | apply Kd.R_drewN | apply Kd.R_drew)); exact HO_7.out) hb); have n1_ := Aside0.mk (Kd.R_below (by (with_reducible repeat (first | apply Kd.R_alloc | apply Kd.R_drewN | apply Kd.R_drew)); exact HO294.out) hb); have n2_ := Aside0.mk (Kd.R_below (by (with_reducible repeat (first | apply Kd.R_alloc | apply Kd.R_drewN | apply Kd.R_drew)); exact HO297.out) hb); have n3_ := Aside0.mk (Kd.R_below (by (with_reducible repeat (first | apply Kd.R_alloc | apply Kd.R_drewN | apply Kd.R_drew)); exact HO300.out) hb); have n4_ := Aside0.mk (Kd.R_below (by (with_reducible repeat (first | apply Kd.R_alloc | apply Kd.R_drewN | apply Kd.R_drew)); exact HO303.out) hb); have n5_ := Aside0.mk (blk_below (g := gb304) (o := .cells #[.slice none 0 0, .slice none 0 0] 27 (0, 0)) (by (with_reducible repeat (first | refine blk_drewN ?_ _ | refine blk_drew ?_ | refine blk_alloc ?_ _)); exact BK304.out) hb); have n6_ := Aside0.mk (below_step (by repeat (first | (with_reducible first | exact HB.out | apply below_alloc | apply pw_below_drewN | apply below_drew1 | refine below_set ?_ GE304.out) | exact HB.out)) hb); have n7_ := Aside0.mk (hbox); have n8_ := Aside0.mk ((by rw [hg]; exact (below_size (by repeat (first | (with_reducible first | exact HB.out | apply below_alloc | apply pw_below_drewN | apply below_drew1 | refine below_set ?_ GE304.out) | exact HB.out))) : w.heap.size ≤ gb305)); have n9_ := Aside0.mk ((by rw [hg]; exact (below_size (by repeat (first | (with_reducible first | exact HB.out | apply below_alloc | apply pw_below_drewN | apply below_drew1 | refine below_set ?_ GE304.out) | exact HB.out))) : w.heap.size ≤ gb305)); have n10_ := Aside0.mk ((by rw [hg]; exact Nat.ne_of_lt (blk_lt (g := gb304) (o := .cells #[.slice none 0 0, .slice none 0 0] 27 (0, 0)) (by (with_reducible repeat (first | refine blk_drewN ?_ _ | refine blk_drew ?_ | refine blk_alloc ?_ _)); exact BK304.out)) : gb304 ≠ gb305)); have n11_ := Aside0.mk ((by rw [hg]; exact Nat.ne_of_gt (blk_lt (g := gb304) (o := .cells #[.slice none 0 0, .slice none 0 0] 27 (0, 0)) (by (with_reducible repeat (first | refine blk_drewN ?_ _ | refine blk_drew ?_ | refine blk_alloc ?_ _)); exact BK304.out)) : gb305 ≠ gb304)); clear HO_7; clear HO294; clear HO297; clear HO300; clear HO303; clear BK304; clear HB; have HO_7 := n0_; have HO294 := n1_; have HO297 := n2_; have HO300 := n3_; have HO303 := n4_; have BK304 := n5_; have HB := n6_; have BK305 := n7_; have GW305 := n8_; have GE305 := n9_; have NB304_305 := n10_; have NB305_304 := n11_; clear n0_ n1_ n2_ n3_ n4_ n5_ n6_ n7_ n8_ n9_ n10_ n11_; clear hb hbox hg; obtain ⟨Ao23, co23, eo23⟩ := Kd.R_slice HO294.out; subst eo23; have hnb24 := NB304_305.out; have hnc24 := NB305_304.out; have hcz25_0 : w22.cell? ⟨gb304, 0, none⟩ = some (.slice none 0 0) := (blk_cell BK304.out 0).trans rfl; have hcz25_1 : w22.cell? ⟨gb304, 1, none⟩ = some (.slice none 0 0) := (blk_cell BK304.out 1).trans rfl; have hfz25_0 := blk_frozen BK304.out 0; have hfz25_1 := blk_frozen BK304.out 1; obtain ⟨Ao26, co26, eo26⟩ := Kd.R_slice HO297.out; subst eo26; obtain ⟨Ao27, co27, eo27⟩ := Kd.R_slice HO300.out; subst eo27; have hcz28_0 : w22.cell? ⟨gb305, 0, none⟩ = some (.slice none 0 0) := (blk_cell BK305.out 0).trans rfl; have hcz28_1 : w22.cell? ⟨gb305, 1, none⟩ = some (.slice none 0 0) := (blk_cell BK305.out 1).trans rfl; have hfz28_0 := blk_frozen BK305.out 0; have hfz28_1 := blk_frozen BK305.out 1; obtain ⟨Ao29, co29, eo29⟩ := Kd.R_slice HO303.out; subst eo29)); go_upto_region 10 with (first | (go_at_call 12; (with_reducible refine (sequence_Of.calls kj10 _ _ t289 x8_10 t292 t295 _ ?side1 ?side2 A15.out).mono ?_); (case side1 => repeat (first | exact (Kd.R_reads' HO_7.out).2.2 | (with_reducible refine Kd.C_alloc ?_ _) | (with_reducible refine Kd.C_drewN ?_ _) | (with_reducible refine Kd.C_drew ?_))); (case side2 => exact (Kd.R_reads' HO_7.out).2.1); rintro e w19 ⟨v293, v296, rfl, ho0, ho1, hb⟩; have n0_ := Aside0.mk (Kd.R_below (by (with_reducible repeat (first | apply Kd.R_alloc | apply Kd.R_drewN | apply Kd.R_drew)); exact HO_7.out) hb); have n1_ := Aside0.mk (Kd.R_lower ho0 (below_size (by repeat (first | (with_reducible first | exact HB.out | apply below_alloc | apply pw_below_drewN | apply below_drew1) | exact HB.out)))); have n2_ := Aside0.mk (Kd.R_lower ho1 (below_size (by repeat (first | (with_reducible first | exact HB.out | apply below_alloc | apply pw_below_drewN | apply below_drew1) | exact HB.out)))); have n3_ := Aside0.mk (below_step (by repeat (first | (with_reducible first | exact HB.out | apply below_alloc | apply pw_below_drewN | apply below_drew1) | exact HB.out)) hb); clear HO_7; clear HB; have HO_7 := n0_; have HO294 := n1_; have HO297 := n2_; have HB := n3_; clear n0_ n1_ n2_ n3_; (try clear hb); (try clear hb2); (try clear hk); (try clear hi); (try clear ho0); (try clear ho1)) | (go_at_call 12; (with_reducible refine (sequence_Of.calls kj10 _ _ t289 x9_10 t298 t301 _ ?side1 ?side2 A16.out).mono ?_); (case side1 => repeat (first | exact (Kd.R_reads' HO_7.out).2.2 | (with_reducible refine Kd.C_alloc ?_ _) | (with_reducible refine Kd.C_drewN ?_ _) | (with_reducible refine Kd.C_drew ?_))); (case side2 => exact (Kd.R_reads' HO_7.out).2.1); rintro e w20 ⟨v299, v302, rfl, ho0, ho1, hb⟩; have n0_ := Aside0.mk (Kd.R_below (by (with_reducible repeat (first | apply Kd.R_alloc | apply Kd.R_drewN | apply Kd.R_drew)); exact HO_7.out) hb); have n1_ := Aside0.mk (Kd.R_mono (Kd.R_told (Kd.R_told (Kd.R_old (by (with_reducible repeat (first | apply Kd.R_alloc | apply Kd.R_drewN | apply Kd.R_drew)); exact HO294.out) hb) (Kd.R_base ho0)) (Kd.R_base ho1)) (fun _ h_ => h_.1)); have n2_ := Aside0.mk (Kd.R_mono (Kd.R_told (Kd.R_told (Kd.R_old (by (with_reducible repeat (first | apply Kd.R_alloc | apply Kd.R_drewN | apply Kd.R_drew)); exact HO297.out) hb) (Kd.R_base ho0)) (Kd.R_base ho1)) (fun _ h_ => h_.1)); have n3_ := Aside0.mk (Kd.R_lower (Kd.R_new' (Kd.R_new' ho0 (Kd.R_lt (by (with_reducible repeat (first | apply Kd.R_alloc | apply Kd.R_drewN | apply Kd.R_drew)); exact HO294.out))) (Kd.R_lt (by (with_reducible repeat (first | apply Kd.R_alloc | apply Kd.R_drewN | apply Kd.R_drew)); exact HO297.out))) (below_size (by repeat (first | (with_reducible first | exact HB.out | apply below_alloc | apply pw_below_drewN | apply below_drew1) | exact HB.out)))); have n4_ := Aside0.mk (Kd.R_lower (Kd.R_new' (Kd.R_new' ho1 (Kd.R_lt (by (with_reducible repeat (first | apply Kd.R_alloc | apply Kd.R_drewN | apply Kd.R_drew)); exact HO294.out))) (Kd.R_lt (by (with_reducible repeat (first | apply Kd.R_alloc | apply Kd.R_drewN | apply Kd.R_drew)); exact HO297.out))) (below_size (by repeat (first | (with_reducible first | exact HB.out | apply below_alloc | apply pw_below_drewN | apply below_drew1) | exact HB.out)))); have n5_ := Aside0.mk (below_step (by repeat (first | (with_reducible first | exact HB.out | apply below_alloc | apply pw_below_drewN | apply below_drew1) | exact HB.out)) hb); clear HO_7; clear HO294; clear HO297; clear HB; have HO_7 := n0_; have HO294 := n1_; have HO297 := n2_; have HO300 := n3_; have HO303 := n4_; have HB := n5_; clear n0_ n1_ n2_ n3_ n4_ n5_; (try clear hb); (try clear hb2); (try clear hk); (try clear hi); (try clear ho0); (try clear ho1)) | ((with_reducible refine gate_dst (N := 10) rfl ?_); (try (refine gate_guard (by rfl) ?_; dsimp only)); refine box_event ?hg (N := 10) ?hd (cs := #[.slice none 0 0, .slice none 0 0]) (t := 27) ?hr ?_; (case hd => rfl); (case hg => rfl); (case hr => first | (go_simp; done) | (go_simp; rfl)); intro gb304 hg w21 hbox hb; have n0_ := Aside0.mk (Kd.R_below (by (with_reducible repeat (first | apply Kd.R_alloc | apply Kd.R_drewN | apply Kd.R_drew)); exact HO_7.out) hb); have n1_ := Aside0.mk (Kd.R_below (by (with_reducible repeat (first | apply Kd.R_alloc | apply Kd.R_drewN | apply Kd.R_drew)); exact HO294.out) hb); have n2_ := Aside0.mk (Kd.R_below (by (with_reducible repeat (first | apply Kd.R_alloc | apply Kd.R_drewN | apply Kd.R_drew)); exact HO297.out) hb); have n3_ := Aside0.mk (Kd.R_below (by (with_reducible repeat (first | apply Kd.R_alloc | apply Kd.R_drewN | apply Kd.R_drew)); exact HO300.out) hb); have n4_ := Aside0.mk (Kd.R_below (by (with_reducible repeat (first | apply Kd.R_alloc | apply Kd.R_drewN | apply Kd.R_drew)); exact HO303.out) hb); have n5_ := Aside0.mk (below_step (by repeat (first | (with_reducible first | exact HB.out | apply below_alloc | apply pw_below_drewN | apply below_drew1) | exact HB.out)) hb); have n6_ := Aside0.mk (hbox); have n7_ := Aside0.mk ((by rw [hg]; exact (below_size (by repeat (first | (with_reducible first | exact HB.out | apply below_alloc | apply pw_below_drewN | apply below_drew1) | exact HB.out))) : w.heap.size ≤ gb304)); have n8_ := Aside0.mk ((by rw [hg]; exact (below_size (by repeat (first | (with_reducible first | exact HB.out | apply below_alloc | apply pw_below_drewN | apply below_drew1) | exact HB.out))) : w.heap.size ≤ gb304)); clear HO_7; clear HO294; clear HO297; clear HO300; clear HO303; clear HB; have HO_7 := n0_; have HO294 := n1_; have HO297 := n2_; have HO300 := n3_; have HO303 := n4_; have HB := n5_; have BK304 := n6_; have GW304 := n7_; have GE304 := n8_; clear n0_ n1_ n2_ n3_ n4_ n5_ n6_ n7_ n8_; clear hb hbox hg) | ((with_reducible refine gate_dst (N := 11) rfl ?_); (try (refine gate_guard (by rfl) ?_; dsimp only)); refine box_event ?hg (N := 11) ?hd (cs := #[.slice none 0 0, .slice none 0 0]) (t := 27) ?hr ?_; (case hd => rfl); (case hg => rfl); (case hr => first | (go_simp; done) | (go_simp; rfl)); intro gb305 hg w22 hbox hb; have n0_ := Aside0.mk (Kd.R_below (by (with_reducible repeat (first | apply Kd.R_alloc | apply Kd.R_drewN | apply Kd.R_drew)); exact HO_7.out) hb); have n1_ := Aside0.mk (Kd.R_below (by (with_reducible repeat (first | apply Kd.R_alloc | apply Kd.R_drewN | apply Kd.R_drew)); exact HO294.out) hb); have n2_ := Aside0.mk (Kd.R_below (by (with_reducible repeat (first | apply Kd.R_alloc | apply Kd.R_drewN | apply Kd.R_drew)); exact HO297.out) hb); have n3_ := Aside0.mk (Kd.R_below (by (with_reducible repeat (first | apply Kd.R_alloc | apply Kd.R_drewN | apply Kd.R_drew)); exact HO300.out) hb); have n4_ := Aside0.mk (Kd.R_below (by (with_reducible repeat (first | apply Kd.R_alloc | apply Kd.R_drewN | apply Kd.R_drew)); exact HO303.out) hb); have n5_ := Aside0.mk (blk_below (g := gb304) (o := .cells #[.slice none 0 0, .slice none 0 0] 27 (0, 0)) (by (with_reducible repeat (first | refine blk_drewN ?_ _ | refine blk_drew ?_ | refine blk_alloc ?_ _)); exact BK304.out) hb); have n6_ := Aside0.mk (below_step (by repeat (first | (with_reducible first | exact HB.out | apply below_alloc | apply pw_below_drewN | apply below_drew1 | refine below_set ?_ GE304.out) | exact HB.out)) hb); have n7_ := Aside0.mk (hbox); have n8_ := Aside0.mk ((by rw [hg]; exact (below_size (by repeat (first | (with_reducible first | exact HB.out | apply below_alloc | apply pw_below_drewN | apply below_drew1 | refine below_set ?_ GE304.out) | exact HB.out))) : w.heap.size ≤ gb305)); have n9_ := Aside0.mk ((by rw [hg]; exact (below_size (by repeat (first | (with_reducible first | exact HB.out | apply below_alloc | apply pw_below_drewN | apply below_drew1 | refine below_set ?_ GE304.out) | exact HB.out))) : w.heap.size ≤ gb305)); have n10_ := Aside0.mk ((by rw [hg]; exact Nat.ne_of_lt (blk_lt (g := gb304) (o := .cells #[.slice none 0 0, .slice none 0 0] 27 (0, 0)) (by (with_reducible repeat (first | refine blk_drewN ?_ _ | refine blk_drew ?_ | refine blk_alloc ?_ _)); exact BK304.out)) : gb304 ≠ gb305)); have n11_ := Aside0.mk ((by rw [hg]; exact Nat.ne_of_gt (blk_lt (g := gb304) (o := .cells #[.slice none 0 0, .slice none 0 0] 27 (0, 0)) (by (with_reducible repeat (first | refine blk_drewN ?_ _ | refine blk_drew ?_ | refine blk_alloc ?_ _)); exact BK304.out)) : gb305 ≠ gb304)); clear HO_7; clear HO294; clear HO297; clear HO300; clear HO303; clear BK304; clear HB; have HO_7 := n0_; have HO294 := n1_; have HO297 := n2_; have HO300 := n3_; have HO303 := n4_; have BK304 := n5_; have HB := n6_; have BK305 := n7_; have GW305 := n8_; have GE305 := n9_; have NB304_305 := n10_; have NB305_304 := n11_; clear n0_ n1_ n2_ n3_ n4_ n5_ n6_ n7_ n8_ n9_ n10_ n11_; clear hb hbox hg; obtain ⟨Ao23, co23, eo23⟩ := Kd.R_slice HO294.out; subst eo23; have hnb24 := NB304_305.out; have hnc24 := NB305_304.out; have hcz25_0 : w22.cell? ⟨gb304, 0, none⟩ = some (.slice none 0 0) := (blk_cell BK304.out 0).trans rfl; have hcz25_1 : w22.cell? ⟨gb304, 1, none⟩ = some (.slice none 0 0) := (blk_cell BK304.out 1).trans rfl; have hfz25_0 := blk_frozen BK304.out 0; have hfz25_1 := blk_frozen BK304.out 1; obtain ⟨Ao26, co26, eo26⟩ := Kd.R_slice HO297.out; subst eo26; obtain ⟨Ao27, co27, eo27⟩ := Kd.R_slice HO300.out; subst eo27; have hcz28_0 : w22.cell? ⟨gb305, 0, none⟩ = some (.slice none 0 0) := (blk_cell BK305.out 0).trans rfl; have hcz28_1 : w22.cell? ⟨gb305, 1, none⟩ = some (.slice none 0 0) := (blk_cell BK305.out 1).trans rfl; have hfz28_0 := blk_frozen BK305.out 0; have hfz28_1 := blk_frozen BK305.out 1; obtain ⟨Ao29, co29, eo29⟩ := Kd.R_slice HO303.out; subst eo29)))
     (try simp only [Act.put, List.setIfInBounds_toArray, List.set_cons_zero, List.set_cons_succ])
     go_cut [72] (fun v72 wc => ∃ (kq : Nat) (x72_16 : Bool), v72 = .bool x72_16 ∧ Aside0 (flagstonelaw41_SequenceNarrows.j1 kq t289 x72_16 t292 t295 t298 t301 = some r) ∧ Aside0 (kq ≤ kj10) ∧ Aside0 (Kd.R k50 50 wc w.heap.size (fun _ => True) (.slice Ao18 t289.length co18) t289) ∧ Aside0 (Kd.R (Kd.int .i64) 3 wc w.heap.size (fun k_ => some k_ ≠ ((.slice Ao26 t295.length co26) : Value).ownBlock ∧ some k_ ≠ ((.slice Ao27 t298.length co27) : Value).ownBlock ∧ some k_ ≠ ((.slice Ao29 t301.length co29) : Value).ownBlock) (.slice Ao23 t292.length co23) t292) ∧ Aside0 (Kd.R (Kd.int .i64) 3 wc w.heap.size (fun k_ => some k_ ≠ ((.slice Ao23 t292.length co23) : Value).ownBlock ∧ some k_ ≠ ((.slice Ao27 t298.length co27) : Value).ownBlock ∧ some k_ ≠ ((.slice Ao29 t301.length co29) : Value).ownBlock) (.slice Ao26 t295.length co26) t295) ∧ Aside0 (Kd.R (Kd.int .i64) 3 wc w.heap.size (fun k_ => some k_ ≠ ((.slice Ao23 t292.length co23) : Value).ownBlock ∧ some k_ ≠ ((.slice Ao26 t295.length co26) : Value).ownBlock ∧ some k_ ≠ ((.slice Ao29 t301.length co29) : Value).ownBlock) (.slice Ao27 t298.length co27) t298) ∧ Aside0 (Kd.R (Kd.int .i64) 3 wc w.heap.size (fun k_ => some k_ ≠ ((.slice Ao23 t292.length co23) : Value).ownBlock ∧ some k_ ≠ ((.slice Ao26 t295.length co26) : Value).ownBlock ∧ some k_ ≠ ((.slice Ao27 t298.length co27) : Value).ownBlock) (.slice Ao29 t301.length co29) t301) ∧ Aside0 (wc.heap[gb304]? = some (.cells #[(.slice Ao23 t292.length co23), (.slice Ao26 t295.length co26)] 27 (0, 0))) ∧ Aside0 (wc.heap[gb305]? = some (.cells #[(.slice Ao27 t298.length co27), (.slice Ao29 t301.length co29)] 27 (0, 0))) ∧ Aside0 (Below w.heap.size w wc))
     case first =>
      have H := HC17.out
      clear HC17
      by_cases c30 : (t292.length : Int) = (t289.length : Int)
      ·rw [if_pos c30] at H
       have c30b0 : ((t292.length : Int) == (t289.length : Int)) = true := beq_iff_eq.mpr c30
       have c30b1 : ((t292.length : Int) != (t289.length : Int)) = false := bne_eq_false_iff_eq.mpr c30
       have c30b2 : (t292.length == t289.length) = true := by first | simpa using c30 | (simp at c30 ⊢; omega)
       clear c30
       (first | rw [c30b0] | (simp only [i64_w, i32_w]; rw [c30b0]) | skip)
       by_cases c31 : (t295.length : Int) = (t289.length : Int)
       ·rw [if_pos c31] at H
        have c31b0 : ((t295.length : Int) == (t289.length : Int)) = true := beq_iff_eq.mpr c31
        have c31b1 : ((t295.length : Int) != (t289.length : Int)) = false := bne_eq_false_iff_eq.mpr c31
        have c31b2 : (t295.length == t289.length) = true := by first | simpa using c31 | (simp at c31 ⊢; omega)
        clear c31
        by_cases c32 : (t298.length : Int) = (t289.length : Int)
        ·rw [if_pos c32] at H
         have c32b0 : ((t298.length : Int) == (t289.length : Int)) = true := beq_iff_eq.mpr c32
         have c32b1 : ((t298.length : Int) != (t289.length : Int)) = false := bne_eq_false_iff_eq.mpr c32
         have c32b2 : (t298.length == t289.length) = true := by first | simpa using c32 | (simp at c32 ⊢; omega)
         clear c32
         have H' := Aside0.mk H
         clear H
         have hnb33 := NB304_305.out
         have hnc33 := NB305_304.out
         have hcz34_0 : w22.cell? ⟨gb304, 0, none⟩ = some (.slice none 0 0) := (blk_cell BK304.out 0).trans rfl
         have hcz34_1 : w22.cell? ⟨gb304, 1, none⟩ = some (.slice none 0 0) := (blk_cell BK304.out 1).trans rfl
         have hfz34_0 := blk_frozen BK304.out 0
         have hfz34_1 := blk_frozen BK304.out 1
         have hcz35_0 : w22.cell? ⟨gb305, 0, none⟩ = some (.slice none 0 0) := (blk_cell BK305.out 0).trans rfl
         have hcz35_1 : w22.cell? ⟨gb305, 1, none⟩ = some (.slice none 0 0) := (blk_cell BK305.out 1).trans rfl
         have hfz35_0 := blk_frozen BK305.out 0
         have hfz35_1 := blk_frozen BK305.out 1
         go_wp2
         repeat (go_quiet (fail); try go_wp2)
         go_meet
         case rel => exact ⟨_, (((t301.length : Int) != (t289.length : Int))), (by first | rfl | (simp; done) | (simp [*]; done) | exact congrArg (Value.int _) (by unfold wrap64; omega)), H', ⟨by have := HJ10.out; first | omega | exact Nat.le_refl _⟩, ⟨by (with_reducible repeat (first | apply Kd.R_alloc | apply Kd.R_drewN | apply Kd.R_drew)); exact Kd.R_mono (Kd.R_far (p := ⟨gb305, 1, none⟩) (Kd.R_far (p := ⟨gb305, 0, none⟩) (Kd.R_far (p := ⟨gb304, 1, none⟩) (Kd.R_far (p := ⟨gb304, 0, none⟩) (Kd.R_types (Kd.R_types HO_7.out BK304.out (by decide)) BK305.out (by decide)) (fun _ hk => hk.1.2) (.slice Ao23 t292.length co23)) (fun _ hk => hk.1.2) (.slice Ao26 t295.length co26)) (fun _ hk => hk.2) (.slice Ao27 t298.length co27)) (fun _ hk => hk.2) (.slice Ao29 t301.length co29)) (fun _ hk => trivial)⟩, ⟨by (with_reducible repeat (first | apply Kd.R_alloc | apply Kd.R_drewN | apply Kd.R_drew)); exact Kd.R_mono (Kd.R_far (p := ⟨gb305, 1, none⟩) (Kd.R_far (p := ⟨gb305, 0, none⟩) (Kd.R_far (p := ⟨gb304, 1, none⟩) (Kd.R_far (p := ⟨gb304, 0, none⟩) (Kd.R_types (Kd.R_types HO294.out BK304.out (by decide)) BK305.out (by decide)) (fun _ hk => hk.1.2) (.slice Ao23 t292.length co23)) (fun _ hk => hk.1.2) (.slice Ao26 t295.length co26)) (fun _ hk => hk.2) (.slice Ao27 t298.length co27)) (fun _ hk => hk.2) (.slice Ao29 t301.length co29)) (fun _ hk => ⟨hk.1.1.1.1, ⟨hk.1.1.1.2, hk.1.1.2⟩⟩)⟩, ⟨by (with_reducible repeat (first | apply Kd.R_alloc | apply Kd.R_drewN | apply Kd.R_drew)); exact Kd.R_mono (Kd.R_far (p := ⟨gb305, 1, none⟩) (Kd.R_far (p := ⟨gb305, 0, none⟩) (Kd.R_far (p := ⟨gb304, 1, none⟩) (Kd.R_far (p := ⟨gb304, 0, none⟩) (Kd.R_types (Kd.R_types HO297.out BK304.out (by decide)) BK305.out (by decide)) (fun _ hk => hk.1.2) (.slice Ao23 t292.length co23)) (fun _ hk => hk.1.2) (.slice Ao26 t295.length co26)) (fun _ hk => hk.2) (.slice Ao27 t298.length co27)) (fun _ hk => hk.2) (.slice Ao29 t301.length co29)) (fun _ hk => ⟨hk.1.1.1.1, ⟨hk.1.1.1.2, hk.1.1.2⟩⟩)⟩, ⟨by (with_reducible repeat (first | apply Kd.R_alloc | apply Kd.R_drewN | apply Kd.R_drew)); exact Kd.R_mono (Kd.R_far (p := ⟨gb305, 1, none⟩) (Kd.R_far (p := ⟨gb305, 0, none⟩) (Kd.R_far (p := ⟨gb304, 1, none⟩) (Kd.R_far (p := ⟨gb304, 0, none⟩) (Kd.R_types (Kd.R_types HO300.out BK304.out (by decide)) BK305.out (by decide)) (fun _ hk => hk.1.2) (.slice Ao23 t292.length co23)) (fun _ hk => hk.1.2) (.slice Ao26 t295.length co26)) (fun _ hk => hk.2) (.slice Ao27 t298.length co27)) (fun _ hk => hk.2) (.slice Ao29 t301.length co29)) (fun _ hk => ⟨hk.1.1.1.2, ⟨hk.1.1.2, hk.1.1.1.1⟩⟩)⟩, ⟨by (with_reducible repeat (first | apply Kd.R_alloc | apply Kd.R_drewN | apply Kd.R_drew)); exact Kd.R_mono (Kd.R_far (p := ⟨gb305, 1, none⟩) (Kd.R_far (p := ⟨gb305, 0, none⟩) (Kd.R_far (p := ⟨gb304, 1, none⟩) (Kd.R_far (p := ⟨gb304, 0, none⟩) (Kd.R_types (Kd.R_types HO303.out BK304.out (by decide)) BK305.out (by decide)) (fun _ hk => hk.1.2) (.slice Ao23 t292.length co23)) (fun _ hk => hk.1.2) (.slice Ao26 t295.length co26)) (fun _ hk => hk.2) (.slice Ao27 t298.length co27)) (fun _ hk => hk.2) (.slice Ao29 t301.length co29)) (fun _ hk => ⟨hk.1.1.1.2, ⟨hk.1.1.2, hk.1.1.1.1⟩⟩)⟩, ⟨by (with_reducible repeat (first | refine blk_drewN ?_ _ | refine blk_drew ?_ | refine blk_alloc ?_ _)); refine blk_far ?_ NB304_305.out _; (with_reducible repeat (first | refine blk_drewN ?_ _ | refine blk_drew ?_ | refine blk_alloc ?_ _)); refine blk_far ?_ NB304_305.out _; (with_reducible repeat (first | refine blk_drewN ?_ _ | refine blk_drew ?_ | refine blk_alloc ?_ _)); refine blk_put (cs := #[.slice Ao23 t292.length co23, .slice none 0 0]) ?_ 1 _ rfl; (with_reducible repeat (first | refine blk_drewN ?_ _ | refine blk_drew ?_ | refine blk_alloc ?_ _)); refine blk_put (cs := #[.slice none 0 0, .slice none 0 0]) ?_ 0 _ rfl; (with_reducible repeat (first | refine blk_drewN ?_ _ | refine blk_drew ?_ | refine blk_alloc ?_ _)); exact BK304.out⟩, ⟨by (with_reducible repeat (first | refine blk_drewN ?_ _ | refine blk_drew ?_ | refine blk_alloc ?_ _)); refine blk_put (cs := #[.slice Ao27 t298.length co27, .slice none 0 0]) ?_ 1 _ rfl; (with_reducible repeat (first | refine blk_drewN ?_ _ | refine blk_drew ?_ | refine blk_alloc ?_ _)); refine blk_put (cs := #[.slice none 0 0, .slice none 0 0]) ?_ 0 _ rfl; (with_reducible repeat (first | refine blk_drewN ?_ _ | refine blk_drew ?_ | refine blk_alloc ?_ _)); refine blk_far ?_ NB305_304.out _; (with_reducible repeat (first | refine blk_drewN ?_ _ | refine blk_drew ?_ | refine blk_alloc ?_ _)); refine blk_far ?_ NB305_304.out _; (with_reducible repeat (first | refine blk_drewN ?_ _ | refine blk_drew ?_ | refine blk_alloc ?_ _)); exact BK305.out⟩, ⟨by repeat (first | (with_reducible first | exact HB.out | apply below_alloc | apply pw_below_drewN | apply below_drew1 | refine below_set ?_ GE304.out | refine below_set ?_ GE305.out) | exact HB.out)⟩⟩
        ·rw [if_neg c32] at H
         have c32b0 : ((t298.length : Int) == (t289.length : Int)) = false := beq_eq_false_iff_ne.mpr c32
         have c32b1 : ((t298.length : Int) != (t289.length : Int)) = true := bne_iff_ne.mpr c32
         have c32b2 : (t298.length == t289.length) = false := by first | simpa using c32 | (simp at c32 ⊢; omega)
         have H' := Aside0.mk H
         clear H
         have hnb36 := NB304_305.out
         have hnc36 := NB305_304.out
         have hcz37_0 : w22.cell? ⟨gb304, 0, none⟩ = some (.slice none 0 0) := (blk_cell BK304.out 0).trans rfl
         have hcz37_1 : w22.cell? ⟨gb304, 1, none⟩ = some (.slice none 0 0) := (blk_cell BK304.out 1).trans rfl
         have hfz37_0 := blk_frozen BK304.out 0
         have hfz37_1 := blk_frozen BK304.out 1
         have hcz38_0 : w22.cell? ⟨gb305, 0, none⟩ = some (.slice none 0 0) := (blk_cell BK305.out 0).trans rfl
         have hcz38_1 : w22.cell? ⟨gb305, 1, none⟩ = some (.slice none 0 0) := (blk_cell BK305.out 1).trans rfl
         have hfz38_0 := blk_frozen BK305.out 0
         have hfz38_1 := blk_frozen BK305.out 1
         go_wp2
         repeat (go_quiet (fail); try go_wp2)
         go_meet
         case rel => exact ⟨_, (true), (by first | rfl | (simp; done) | (simp [*]; done) | exact congrArg (Value.int _) (by unfold wrap64; omega)), H', ⟨by have := HJ10.out; first | omega | exact Nat.le_refl _⟩, ⟨by (with_reducible repeat (first | apply Kd.R_alloc | apply Kd.R_drewN | apply Kd.R_drew)); exact Kd.R_mono (Kd.R_far (p := ⟨gb305, 1, none⟩) (Kd.R_far (p := ⟨gb305, 0, none⟩) (Kd.R_far (p := ⟨gb304, 1, none⟩) (Kd.R_far (p := ⟨gb304, 0, none⟩) (Kd.R_types (Kd.R_types HO_7.out BK304.out (by decide)) BK305.out (by decide)) (fun _ hk => hk.1.2) (.slice Ao23 t292.length co23)) (fun _ hk => hk.1.2) (.slice Ao26 t295.length co26)) (fun _ hk => hk.2) (.slice Ao27 t298.length co27)) (fun _ hk => hk.2) (.slice Ao29 t301.length co29)) (fun _ hk => trivial)⟩, ⟨by (with_reducible repeat (first | apply Kd.R_alloc | apply Kd.R_drewN | apply Kd.R_drew)); exact Kd.R_mono (Kd.R_far (p := ⟨gb305, 1, none⟩) (Kd.R_far (p := ⟨gb305, 0, none⟩) (Kd.R_far (p := ⟨gb304, 1, none⟩) (Kd.R_far (p := ⟨gb304, 0, none⟩) (Kd.R_types (Kd.R_types HO294.out BK304.out (by decide)) BK305.out (by decide)) (fun _ hk => hk.1.2) (.slice Ao23 t292.length co23)) (fun _ hk => hk.1.2) (.slice Ao26 t295.length co26)) (fun _ hk => hk.2) (.slice Ao27 t298.length co27)) (fun _ hk => hk.2) (.slice Ao29 t301.length co29)) (fun _ hk => ⟨hk.1.1.1.1, ⟨hk.1.1.1.2, hk.1.1.2⟩⟩)⟩, ⟨by (with_reducible repeat (first | apply Kd.R_alloc | apply Kd.R_drewN | apply Kd.R_drew)); exact Kd.R_mono (Kd.R_far (p := ⟨gb305, 1, none⟩) (Kd.R_far (p := ⟨gb305, 0, none⟩) (Kd.R_far (p := ⟨gb304, 1, none⟩) (Kd.R_far (p := ⟨gb304, 0, none⟩) (Kd.R_types (Kd.R_types HO297.out BK304.out (by decide)) BK305.out (by decide)) (fun _ hk => hk.1.2) (.slice Ao23 t292.length co23)) (fun _ hk => hk.1.2) (.slice Ao26 t295.length co26)) (fun _ hk => hk.2) (.slice Ao27 t298.length co27)) (fun _ hk => hk.2) (.slice Ao29 t301.length co29)) (fun _ hk => ⟨hk.1.1.1.1, ⟨hk.1.1.1.2, hk.1.1.2⟩⟩)⟩, ⟨by (with_reducible repeat (first | apply Kd.R_alloc | apply Kd.R_drewN | apply Kd.R_drew)); exact Kd.R_mono (Kd.R_far (p := ⟨gb305, 1, none⟩) (Kd.R_far (p := ⟨gb305, 0, none⟩) (Kd.R_far (p := ⟨gb304, 1, none⟩) (Kd.R_far (p := ⟨gb304, 0, none⟩) (Kd.R_types (Kd.R_types HO300.out BK304.out (by decide)) BK305.out (by decide)) (fun _ hk => hk.1.2) (.slice Ao23 t292.length co23)) (fun _ hk => hk.1.2) (.slice Ao26 t295.length co26)) (fun _ hk => hk.2) (.slice Ao27 t298.length co27)) (fun _ hk => hk.2) (.slice Ao29 t301.length co29)) (fun _ hk => ⟨hk.1.1.1.2, ⟨hk.1.1.2, hk.1.1.1.1⟩⟩)⟩, ⟨by (with_reducible repeat (first | apply Kd.R_alloc | apply Kd.R_drewN | apply Kd.R_drew)); exact Kd.R_mono (Kd.R_far (p := ⟨gb305, 1, none⟩) (Kd.R_far (p := ⟨gb305, 0, none⟩) (Kd.R_far (p := ⟨gb304, 1, none⟩) (Kd.R_far (p := ⟨gb304, 0, none⟩) (Kd.R_types (Kd.R_types HO303.out BK304.out (by decide)) BK305.out (by decide)) (fun _ hk => hk.1.2) (.slice Ao23 t292.length co23)) (fun _ hk => hk.1.2) (.slice Ao26 t295.length co26)) (fun _ hk => hk.2) (.slice Ao27 t298.length co27)) (fun _ hk => hk.2) (.slice Ao29 t301.length co29)) (fun _ hk => ⟨hk.1.1.1.2, ⟨hk.1.1.2, hk.1.1.1.1⟩⟩)⟩, ⟨by (with_reducible repeat (first | refine blk_drewN ?_ _ | refine blk_drew ?_ | refine blk_alloc ?_ _)); refine blk_far ?_ NB304_305.out _; (with_reducible repeat (first | refine blk_drewN ?_ _ | refine blk_drew ?_ | refine blk_alloc ?_ _)); refine blk_far ?_ NB304_305.out _; (with_reducible repeat (first | refine blk_drewN ?_ _ | refine blk_drew ?_ | refine blk_alloc ?_ _)); refine blk_put (cs := #[.slice Ao23 t292.length co23, .slice none 0 0]) ?_ 1 _ rfl; (with_reducible repeat (first | refine blk_drewN ?_ _ | refine blk_drew ?_ | refine blk_alloc ?_ _)); refine blk_put (cs := #[.slice none 0 0, .slice none 0 0]) ?_ 0 _ rfl; (with_reducible repeat (first | refine blk_drewN ?_ _ | refine blk_drew ?_ | refine blk_alloc ?_ _)); exact BK304.out⟩, ⟨by (with_reducible repeat (first | refine blk_drewN ?_ _ | refine blk_drew ?_ | refine blk_alloc ?_ _)); refine blk_put (cs := #[.slice Ao27 t298.length co27, .slice none 0 0]) ?_ 1 _ rfl; (with_reducible repeat (first | refine blk_drewN ?_ _ | refine blk_drew ?_ | refine blk_alloc ?_ _)); refine blk_put (cs := #[.slice none 0 0, .slice none 0 0]) ?_ 0 _ rfl; (with_reducible repeat (first | refine blk_drewN ?_ _ | refine blk_drew ?_ | refine blk_alloc ?_ _)); refine blk_far ?_ NB305_304.out _; (with_reducible repeat (first | refine blk_drewN ?_ _ | refine blk_drew ?_ | refine blk_alloc ?_ _)); refine blk_far ?_ NB305_304.out _; (with_reducible repeat (first | refine blk_drewN ?_ _ | refine blk_drew ?_ | refine blk_alloc ?_ _)); exact BK305.out⟩, ⟨by repeat (first | (with_reducible first | exact HB.out | apply below_alloc | apply pw_below_drewN | apply below_drew1 | refine below_set ?_ GE304.out | refine below_set ?_ GE305.out) | exact HB.out)⟩⟩
       ·rw [if_neg c31] at H
        have c31b0 : ((t295.length : Int) == (t289.length : Int)) = false := beq_eq_false_iff_ne.mpr c31
        have c31b1 : ((t295.length : Int) != (t289.length : Int)) = true := bne_iff_ne.mpr c31
        have c31b2 : (t295.length == t289.length) = false := by first | simpa using c31 | (simp at c31 ⊢; omega)
        have H' := Aside0.mk H
        clear H
        have hnb39 := NB304_305.out
        have hnc39 := NB305_304.out
        have hcz40_0 : w22.cell? ⟨gb304, 0, none⟩ = some (.slice none 0 0) := (blk_cell BK304.out 0).trans rfl
        have hcz40_1 : w22.cell? ⟨gb304, 1, none⟩ = some (.slice none 0 0) := (blk_cell BK304.out 1).trans rfl
        have hfz40_0 := blk_frozen BK304.out 0
        have hfz40_1 := blk_frozen BK304.out 1
        go_wp2
        repeat (go_quiet (fail); try go_wp2)
        go_meet
        case rel => exact ⟨_, (true), (by first | rfl | (simp; done) | (simp [*]; done) | exact congrArg (Value.int _) (by unfold wrap64; omega)), H', ⟨by have := HJ10.out; first | omega | exact Nat.le_refl _⟩, ⟨by (with_reducible repeat (first | apply Kd.R_alloc | apply Kd.R_drewN | apply Kd.R_drew)); exact Kd.R_mono (Kd.R_far (p := ⟨gb305, 1, none⟩) (Kd.R_far (p := ⟨gb305, 0, none⟩) (Kd.R_far (p := ⟨gb304, 1, none⟩) (Kd.R_far (p := ⟨gb304, 0, none⟩) (Kd.R_types (Kd.R_types HO_7.out BK304.out (by decide)) BK305.out (by decide)) (fun _ hk => hk.1.2) (.slice Ao23 t292.length co23)) (fun _ hk => hk.1.2) (.slice Ao26 t295.length co26)) (fun _ hk => hk.2) (.slice Ao27 t298.length co27)) (fun _ hk => hk.2) (.slice Ao29 t301.length co29)) (fun _ hk => trivial)⟩, ⟨by (with_reducible repeat (first | apply Kd.R_alloc | apply Kd.R_drewN | apply Kd.R_drew)); exact Kd.R_mono (Kd.R_far (p := ⟨gb305, 1, none⟩) (Kd.R_far (p := ⟨gb305, 0, none⟩) (Kd.R_far (p := ⟨gb304, 1, none⟩) (Kd.R_far (p := ⟨gb304, 0, none⟩) (Kd.R_types (Kd.R_types HO294.out BK304.out (by decide)) BK305.out (by decide)) (fun _ hk => hk.1.2) (.slice Ao23 t292.length co23)) (fun _ hk => hk.1.2) (.slice Ao26 t295.length co26)) (fun _ hk => hk.2) (.slice Ao27 t298.length co27)) (fun _ hk => hk.2) (.slice Ao29 t301.length co29)) (fun _ hk => ⟨hk.1.1.1.1, ⟨hk.1.1.1.2, hk.1.1.2⟩⟩)⟩, ⟨by (with_reducible repeat (first | apply Kd.R_alloc | apply Kd.R_drewN | apply Kd.R_drew)); exact Kd.R_mono (Kd.R_far (p := ⟨gb305, 1, none⟩) (Kd.R_far (p := ⟨gb305, 0, none⟩) (Kd.R_far (p := ⟨gb304, 1, none⟩) (Kd.R_far (p := ⟨gb304, 0, none⟩) (Kd.R_types (Kd.R_types HO297.out BK304.out (by decide)) BK305.out (by decide)) (fun _ hk => hk.1.2) (.slice Ao23 t292.length co23)) (fun _ hk => hk.1.2) (.slice Ao26 t295.length co26)) (fun _ hk => hk.2) (.slice Ao27 t298.length co27)) (fun _ hk => hk.2) (.slice Ao29 t301.length co29)) (fun _ hk => ⟨hk.1.1.1.1, ⟨hk.1.1.1.2, hk.1.1.2⟩⟩)⟩, ⟨by (with_reducible repeat (first | apply Kd.R_alloc | apply Kd.R_drewN | apply Kd.R_drew)); exact Kd.R_mono (Kd.R_far (p := ⟨gb305, 1, none⟩) (Kd.R_far (p := ⟨gb305, 0, none⟩) (Kd.R_far (p := ⟨gb304, 1, none⟩) (Kd.R_far (p := ⟨gb304, 0, none⟩) (Kd.R_types (Kd.R_types HO300.out BK304.out (by decide)) BK305.out (by decide)) (fun _ hk => hk.1.2) (.slice Ao23 t292.length co23)) (fun _ hk => hk.1.2) (.slice Ao26 t295.length co26)) (fun _ hk => hk.2) (.slice Ao27 t298.length co27)) (fun _ hk => hk.2) (.slice Ao29 t301.length co29)) (fun _ hk => ⟨hk.1.1.1.2, ⟨hk.1.1.2, hk.1.1.1.1⟩⟩)⟩, ⟨by (with_reducible repeat (first | apply Kd.R_alloc | apply Kd.R_drewN | apply Kd.R_drew)); exact Kd.R_mono (Kd.R_far (p := ⟨gb305, 1, none⟩) (Kd.R_far (p := ⟨gb305, 0, none⟩) (Kd.R_far (p := ⟨gb304, 1, none⟩) (Kd.R_far (p := ⟨gb304, 0, none⟩) (Kd.R_types (Kd.R_types HO303.out BK304.out (by decide)) BK305.out (by decide)) (fun _ hk => hk.1.2) (.slice Ao23 t292.length co23)) (fun _ hk => hk.1.2) (.slice Ao26 t295.length co26)) (fun _ hk => hk.2) (.slice Ao27 t298.length co27)) (fun _ hk => hk.2) (.slice Ao29 t301.length co29)) (fun _ hk => ⟨hk.1.1.1.2, ⟨hk.1.1.2, hk.1.1.1.1⟩⟩)⟩, ⟨by (with_reducible repeat (first | refine blk_drewN ?_ _ | refine blk_drew ?_ | refine blk_alloc ?_ _)); refine blk_far ?_ NB304_305.out _; (with_reducible repeat (first | refine blk_drewN ?_ _ | refine blk_drew ?_ | refine blk_alloc ?_ _)); refine blk_far ?_ NB304_305.out _; (with_reducible repeat (first | refine blk_drewN ?_ _ | refine blk_drew ?_ | refine blk_alloc ?_ _)); refine blk_put (cs := #[.slice Ao23 t292.length co23, .slice none 0 0]) ?_ 1 _ rfl; (with_reducible repeat (first | refine blk_drewN ?_ _ | refine blk_drew ?_ | refine blk_alloc ?_ _)); refine blk_put (cs := #[.slice none 0 0, .slice none 0 0]) ?_ 0 _ rfl; (with_reducible repeat (first | refine blk_drewN ?_ _ | refine blk_drew ?_ | refine blk_alloc ?_ _)); exact BK304.out⟩, ⟨by (with_reducible repeat (first | refine blk_drewN ?_ _ | refine blk_drew ?_ | refine blk_alloc ?_ _)); refine blk_put (cs := #[.slice Ao27 t298.length co27, .slice none 0 0]) ?_ 1 _ rfl; (with_reducible repeat (first | refine blk_drewN ?_ _ | refine blk_drew ?_ | refine blk_alloc ?_ _)); refine blk_put (cs := #[.slice none 0 0, .slice none 0 0]) ?_ 0 _ rfl; (with_reducible repeat (first | refine blk_drewN ?_ _ | refine blk_drew ?_ | refine blk_alloc ?_ _)); refine blk_far ?_ NB305_304.out _; (with_reducible repeat (first | refine blk_drewN ?_ _ | refine blk_drew ?_ | refine blk_alloc ?_ _)); refine blk_far ?_ NB305_304.out _; (with_reducible repeat (first | refine blk_drewN ?_ _ | refine blk_drew ?_ | refine blk_alloc ?_ _)); exact BK305.out⟩, ⟨by repeat (first | (with_reducible first | exact HB.out | apply below_alloc | apply pw_below_drewN | apply below_drew1 | refine below_set ?_ GE304.out | refine below_set ?_ GE305.out) | exact HB.out)⟩⟩
      ·rw [if_neg c30] at H
       have c30b0 : ((t292.length : Int) == (t289.length : Int)) = false := beq_eq_false_iff_ne.mpr c30
       have c30b1 : ((t292.length : Int) != (t289.length : Int)) = true := bne_iff_ne.mpr c30
       have c30b2 : (t292.length == t289.length) = false := by first | simpa using c30 | (simp at c30 ⊢; omega)
       (first | rw [c30b0] | (simp only [i64_w, i32_w]; rw [c30b0]) | skip)
       have H' := Aside0.mk H
       clear H
       have hnb41 := NB304_305.out
       have hnc41 := NB305_304.out
       have hcz42_0 : w22.cell? ⟨gb304, 0, none⟩ = some (.slice none 0 0) := (blk_cell BK304.out 0).trans rfl
       have hcz42_1 : w22.cell? ⟨gb304, 1, none⟩ = some (.slice none 0 0) := (blk_cell BK304.out 1).trans rfl
       have hfz42_0 := blk_frozen BK304.out 0
       have hfz42_1 := blk_frozen BK304.out 1
       go_wp2
       repeat (go_quiet (fail); try go_wp2)
       go_meet
       case rel => exact ⟨_, (true), (by first | rfl | (simp; done) | (simp [*]; done) | exact congrArg (Value.int _) (by unfold wrap64; omega)), H', ⟨by have := HJ10.out; first | omega | exact Nat.le_refl _⟩, ⟨by (with_reducible repeat (first | apply Kd.R_alloc | apply Kd.R_drewN | apply Kd.R_drew)); exact Kd.R_mono (Kd.R_far (p := ⟨gb305, 1, none⟩) (Kd.R_far (p := ⟨gb305, 0, none⟩) (Kd.R_far (p := ⟨gb304, 1, none⟩) (Kd.R_far (p := ⟨gb304, 0, none⟩) (Kd.R_types (Kd.R_types HO_7.out BK304.out (by decide)) BK305.out (by decide)) (fun _ hk => hk.1.2) (.slice Ao23 t292.length co23)) (fun _ hk => hk.1.2) (.slice Ao26 t295.length co26)) (fun _ hk => hk.2) (.slice Ao27 t298.length co27)) (fun _ hk => hk.2) (.slice Ao29 t301.length co29)) (fun _ hk => trivial)⟩, ⟨by (with_reducible repeat (first | apply Kd.R_alloc | apply Kd.R_drewN | apply Kd.R_drew)); exact Kd.R_mono (Kd.R_far (p := ⟨gb305, 1, none⟩) (Kd.R_far (p := ⟨gb305, 0, none⟩) (Kd.R_far (p := ⟨gb304, 1, none⟩) (Kd.R_far (p := ⟨gb304, 0, none⟩) (Kd.R_types (Kd.R_types HO294.out BK304.out (by decide)) BK305.out (by decide)) (fun _ hk => hk.1.2) (.slice Ao23 t292.length co23)) (fun _ hk => hk.1.2) (.slice Ao26 t295.length co26)) (fun _ hk => hk.2) (.slice Ao27 t298.length co27)) (fun _ hk => hk.2) (.slice Ao29 t301.length co29)) (fun _ hk => ⟨hk.1.1.1.1, ⟨hk.1.1.1.2, hk.1.1.2⟩⟩)⟩, ⟨by (with_reducible repeat (first | apply Kd.R_alloc | apply Kd.R_drewN | apply Kd.R_drew)); exact Kd.R_mono (Kd.R_far (p := ⟨gb305, 1, none⟩) (Kd.R_far (p := ⟨gb305, 0, none⟩) (Kd.R_far (p := ⟨gb304, 1, none⟩) (Kd.R_far (p := ⟨gb304, 0, none⟩) (Kd.R_types (Kd.R_types HO297.out BK304.out (by decide)) BK305.out (by decide)) (fun _ hk => hk.1.2) (.slice Ao23 t292.length co23)) (fun _ hk => hk.1.2) (.slice Ao26 t295.length co26)) (fun _ hk => hk.2) (.slice Ao27 t298.length co27)) (fun _ hk => hk.2) (.slice Ao29 t301.length co29)) (fun _ hk => ⟨hk.1.1.1.1, ⟨hk.1.1.1.2, hk.1.1.2⟩⟩)⟩, ⟨by (with_reducible repeat (first | apply Kd.R_alloc | apply Kd.R_drewN | apply Kd.R_drew)); exact Kd.R_mono (Kd.R_far (p := ⟨gb305, 1, none⟩) (Kd.R_far (p := ⟨gb305, 0, none⟩) (Kd.R_far (p := ⟨gb304, 1, none⟩) (Kd.R_far (p := ⟨gb304, 0, none⟩) (Kd.R_types (Kd.R_types HO300.out BK304.out (by decide)) BK305.out (by decide)) (fun _ hk => hk.1.2) (.slice Ao23 t292.length co23)) (fun _ hk => hk.1.2) (.slice Ao26 t295.length co26)) (fun _ hk => hk.2) (.slice Ao27 t298.length co27)) (fun _ hk => hk.2) (.slice Ao29 t301.length co29)) (fun _ hk => ⟨hk.1.1.1.2, ⟨hk.1.1.2, hk.1.1.1.1⟩⟩)⟩, ⟨by (with_reducible repeat (first | apply Kd.R_alloc | apply Kd.R_drewN | apply Kd.R_drew)); exact Kd.R_mono (Kd.R_far (p := ⟨gb305, 1, none⟩) (Kd.R_far (p := ⟨gb305, 0, none⟩) (Kd.R_far (p := ⟨gb304, 1, none⟩) (Kd.R_far (p := ⟨gb304, 0, none⟩) (Kd.R_types (Kd.R_types HO303.out BK304.out (by decide)) BK305.out (by decide)) (fun _ hk => hk.1.2) (.slice Ao23 t292.length co23)) (fun _ hk => hk.1.2) (.slice Ao26 t295.length co26)) (fun _ hk => hk.2) (.slice Ao27 t298.length co27)) (fun _ hk => hk.2) (.slice Ao29 t301.length co29)) (fun _ hk => ⟨hk.1.1.1.2, ⟨hk.1.1.2, hk.1.1.1.1⟩⟩)⟩, ⟨by (with_reducible repeat (first | refine blk_drewN ?_ _ | refine blk_drew ?_ | refine blk_alloc ?_ _)); refine blk_far ?_ NB304_305.out _; (with_reducible repeat (first | refine blk_drewN ?_ _ | refine blk_drew ?_ | refine blk_alloc ?_ _)); refine blk_far ?_ NB304_305.out _; (with_reducible repeat (first | refine blk_drewN ?_ _ | refine blk_drew ?_ | refine blk_alloc ?_ _)); refine blk_put (cs := #[.slice Ao23 t292.length co23, .slice none 0 0]) ?_ 1 _ rfl; (with_reducible repeat (first | refine blk_drewN ?_ _ | refine blk_drew ?_ | refine blk_alloc ?_ _)); refine blk_put (cs := #[.slice none 0 0, .slice none 0 0]) ?_ 0 _ rfl; (with_reducible repeat (first | refine blk_drewN ?_ _ | refine blk_drew ?_ | refine blk_alloc ?_ _)); exact BK304.out⟩, ⟨by (with_reducible repeat (first | refine blk_drewN ?_ _ | refine blk_drew ?_ | refine blk_alloc ?_ _)); refine blk_put (cs := #[.slice Ao27 t298.length co27, .slice none 0 0]) ?_ 1 _ rfl; (with_reducible repeat (first | refine blk_drewN ?_ _ | refine blk_drew ?_ | refine blk_alloc ?_ _)); refine blk_put (cs := #[.slice none 0 0, .slice none 0 0]) ?_ 0 _ rfl; (with_reducible repeat (first | refine blk_drewN ?_ _ | refine blk_drew ?_ | refine blk_alloc ?_ _)); refine blk_far ?_ NB305_304.out _; (with_reducible repeat (first | refine blk_drewN ?_ _ | refine blk_drew ?_ | refine blk_alloc ?_ _)); refine blk_far ?_ NB305_304.out _; (with_reducible repeat (first | refine blk_drewN ?_ _ | refine blk_drew ?_ | refine blk_alloc ?_ _)); exact BK305.out⟩, ⟨by repeat (first | (with_reducible first | exact HB.out | apply below_alloc | apply pw_below_drewN | apply below_drew1 | refine below_set ?_ GE304.out | refine below_set ?_ GE305.out) | exact HB.out)⟩⟩
     case rest =>
      clear HC17
      try clear c1
      try clear c2
      try clear p2
      try clear c3
      try clear c4
      try clear c5
      try clear c6
      try clear c6b0
      try clear c6b1
      try clear p6
      try clear c9
      try clear c14
      try clear c14b0
      try clear c24
      try clear c30
      try clear c30b0
      try clear c30b1
      try clear c30b2
      try clear c31
      try clear c31b0
      try clear c31b1
      try clear c31b2
      try clear c32
      try clear c32b0
      try clear c32b1
      try clear c32b2
      try clear c33
      try clear c36
      try clear c39
      try clear c41
      try clear hcz25_0
      try clear hcz25_1
      try clear hcz28_0
      try clear hcz28_1
      try clear hcz34_0
      try clear hcz34_1
      try clear hcz35_0
      try clear hcz35_1
      try clear hcz37_0
      try clear hcz37_1
      try clear hcz38_0
      try clear hcz38_1
      try clear hcz40_0
      try clear hcz40_1
      try clear hcz42_0
      try clear hcz42_1
      try clear hfz25_0
      try clear hfz25_1
      try clear hfz28_0
      try clear hfz28_1
      try clear hfz34_0
      try clear hfz34_1
      try clear hfz35_0
      try clear hfz35_1
      try clear hfz37_0
      try clear hfz37_1
      try clear hfz38_0
      try clear hfz38_1
      try clear hfz40_0
      try clear hfz40_1
      try clear hfz42_0
      try clear hfz42_1
      try clear p2
      try clear p6
      obtain ⟨kq, x72_16, rfl, HA, HJ16, HO_7, HO_305000, HO_305001, HO_306000, HO_306001, BK304, BK305, HB⟩ := hcut
      cases kq with
      | zero => exact absurd HA.out (by simp [flagstonelaw41_SequenceNarrows.j1])
      | succ kj16 =>
       have H := HA.out
       clear HA
       simp only [flagstonelaw41_SequenceNarrows.j1] at H
       by_cases c43 : x72_16 = true
       ·subst c43
        have H1 : (some false) = some r := by rw [if_pos rfl] at H; exact H
        clear H
        have H := H1
        clear H1
        obtain rfl := Option.some.inj H
        go_wp2
        repeat (go_quiet (fail); try go_wp2)
        go_ret
        exact ⟨by first | rfl | (simp [errW_none, errW_some] <;> rfl) | (simp only [← hji9, ← hji10]; first | rfl | (simp [errW_none, errW_some] <;> rfl)) | (simp [*, errW_none, errW_some] <;> rfl), by repeat (first | (with_reducible first | exact HB.out | apply below_alloc | apply pw_below_drewN | apply below_drew1 | refine below_set ?_ GE304.out | refine below_set ?_ GE305.out) | exact HB.out)⟩
       ·replace c43 := Bool.eq_false_iff.mpr c43
        subst c43
        have H1 : (flagstonelaw41_SequenceNarrows.l0 kj16 t289 0 t292 t295 t298 t301) = some r := by rw [if_neg (show ¬ (false = true) by decide)] at H; exact H
        clear H
        have H := H1
        clear H1
        have H' := Aside0.mk H
        clear H
        go_wp2
        repeat (go_quiet (fail); try go_wp2)
        go_loopg [12] kj16 (fun kq v12 w' => ∃ (x12_3 : Int), v12 = .int .i64 x12_3 ∧ Aside0 (flagstonelaw41_SequenceNarrows.l0 kq t289 x12_3 t292 t295 t298 t301 = some r) ∧ Aside0 (kq ≤ kj16) ∧ Aside0 (Kd.R k50 50 w' w.heap.size (fun _ => True) (.slice Ao18 t289.length co18) t289) ∧ Aside0 (Kd.R (Kd.int .i64) 3 w' w.heap.size (fun k_ => some k_ ≠ ((.slice Ao26 t295.length co26) : Value).ownBlock ∧ some k_ ≠ ((.slice Ao27 t298.length co27) : Value).ownBlock ∧ some k_ ≠ ((.slice Ao29 t301.length co29) : Value).ownBlock) (.slice Ao23 t292.length co23) t292) ∧ Aside0 (Kd.R (Kd.int .i64) 3 w' w.heap.size (fun k_ => some k_ ≠ ((.slice Ao23 t292.length co23) : Value).ownBlock ∧ some k_ ≠ ((.slice Ao27 t298.length co27) : Value).ownBlock ∧ some k_ ≠ ((.slice Ao29 t301.length co29) : Value).ownBlock) (.slice Ao26 t295.length co26) t295) ∧ Aside0 (Kd.R (Kd.int .i64) 3 w' w.heap.size (fun k_ => some k_ ≠ ((.slice Ao23 t292.length co23) : Value).ownBlock ∧ some k_ ≠ ((.slice Ao26 t295.length co26) : Value).ownBlock ∧ some k_ ≠ ((.slice Ao29 t301.length co29) : Value).ownBlock) (.slice Ao27 t298.length co27) t298) ∧ Aside0 (Kd.R (Kd.int .i64) 3 w' w.heap.size (fun k_ => some k_ ≠ ((.slice Ao23 t292.length co23) : Value).ownBlock ∧ some k_ ≠ ((.slice Ao26 t295.length co26) : Value).ownBlock ∧ some k_ ≠ ((.slice Ao27 t298.length co27) : Value).ownBlock) (.slice Ao29 t301.length co29) t301) ∧ Aside0 (w'.heap[gb304]? = some (.cells #[(.slice Ao23 t292.length co23), (.slice Ao26 t295.length co26)] 27 (0, 0))) ∧ Aside0 (w'.heap[gb305]? = some (.cells #[(.slice Ao27 t298.length co27), (.slice Ao29 t301.length co29)] 27 (0, 0))) ∧ Aside0 (Below w.heap.size w w'))
        case atStart => exact ⟨(0), (by first | rfl | (simp; done) | (simp [*]; done) | exact congrArg (Value.int _) (by unfold wrap64; omega)), H', ⟨Nat.le_refl _⟩, ⟨by (with_reducible repeat (first | apply Kd.R_alloc | apply Kd.R_drewN | apply Kd.R_drew)); exact HO_7.out⟩, ⟨by (with_reducible repeat (first | apply Kd.R_alloc | apply Kd.R_drewN | apply Kd.R_drew)); exact HO_305000.out⟩, ⟨by (with_reducible repeat (first | apply Kd.R_alloc | apply Kd.R_drewN | apply Kd.R_drew)); exact HO_305001.out⟩, ⟨by (with_reducible repeat (first | apply Kd.R_alloc | apply Kd.R_drewN | apply Kd.R_drew)); exact HO_306000.out⟩, ⟨by (with_reducible repeat (first | apply Kd.R_alloc | apply Kd.R_drewN | apply Kd.R_drew)); exact HO_306001.out⟩, ⟨by (with_reducible repeat (first | refine blk_drewN ?_ _ | refine blk_drew ?_ | refine blk_alloc ?_ _)); exact BK304.out⟩, ⟨by (with_reducible repeat (first | refine blk_drewN ?_ _ | refine blk_drew ?_ | refine blk_alloc ?_ _)); exact BK305.out⟩, ⟨by repeat (first | (with_reducible first | exact HB.out | apply below_alloc | apply pw_below_drewN | apply below_drew1 | refine below_set ?_ GE304.out | refine below_set ?_ GE305.out) | exact HB.out)⟩⟩
        case round =>
         clear H'
         try clear c1
         try clear c2
         try clear p2
         try clear c3
         try clear c4
         try clear c5
         try clear c6
         try clear c6b0
         try clear c6b1
         try clear p6
         try clear c9
         try clear c14
         try clear c14b0
         try clear c24
         try clear c30
         try clear c30b0
         try clear c30b1
         try clear c30b2
         try clear c31
         try clear c31b0
         try clear c31b1
         try clear c31b2
         try clear c32
         try clear c32b0
         try clear c32b1
         try clear c32b2
         try clear c33
         try clear c36
         try clear c39
         try clear c41
         try clear c43
         try clear hcz25_0
         try clear hcz25_1
         try clear hcz28_0
         try clear hcz28_1
         try clear hcz34_0
         try clear hcz34_1
         try clear hcz35_0
         try clear hcz35_1
         try clear hcz37_0
         try clear hcz37_1
         try clear hcz38_0
         try clear hcz38_1
         try clear hcz40_0
         try clear hcz40_1
         try clear hcz42_0
         try clear hcz42_1
         try clear hfz25_0
         try clear hfz25_1
         try clear hfz28_0
         try clear hfz28_1
         try clear hfz34_0
         try clear hfz34_1
         try clear hfz35_0
         try clear hfz35_1
         try clear hfz37_0
         try clear hfz37_1
         try clear hfz38_0
         try clear hfz38_1
         try clear hfz40_0
         try clear hfz40_1
         try clear hfz42_0
         try clear hfz42_1
         try clear p2
         try clear p6
         obtain ⟨x12_3, rfl, HA, HK3, HO_7, HO_305000, HO_305001, HO_306000, HO_306001, BK304, BK305, HB⟩ := hrel
         cases gk with
         | zero => exact absurd HA.out (by simp [flagstonelaw41_SequenceNarrows.l0])
         | succ k3 =>
          have H := HA.out
          clear HA
          simp only [flagstonelaw41_SequenceNarrows.l0] at H
          by_cases c44 : x12_3 < (t289.length : Int)
          ·rw [if_pos c44] at H
           have c44b0 : decide (x12_3 < (t289.length : Int)) = true := decide_eq_true c44
           clear c44
           have HC45 := Aside0.mk H
           clear H
           go_upto_region 15 with (fail)
           repeat (go_quiet (fail); go_upto_region 15 with (fail))
           go_cut [134] (fun v134 wc => ∃ (kq : Nat) (x134_44 : Bool), v134 = .bool x134_44 ∧ Aside0 (flagstonelaw41_SequenceNarrows.j3 kq t289 x12_3 x134_44 t292 t295 t298 t301 = some r) ∧ Aside0 (kq ≤ k3) ∧ Aside0 (Kd.R k50 50 wc w.heap.size (fun _ => True) (.slice Ao18 t289.length co18) t289) ∧ Aside0 (Kd.R (Kd.int .i64) 3 wc w.heap.size (fun k_ => some k_ ≠ ((.slice Ao26 t295.length co26) : Value).ownBlock ∧ some k_ ≠ ((.slice Ao27 t298.length co27) : Value).ownBlock ∧ some k_ ≠ ((.slice Ao29 t301.length co29) : Value).ownBlock) (.slice Ao23 t292.length co23) t292) ∧ Aside0 (Kd.R (Kd.int .i64) 3 wc w.heap.size (fun k_ => some k_ ≠ ((.slice Ao23 t292.length co23) : Value).ownBlock ∧ some k_ ≠ ((.slice Ao27 t298.length co27) : Value).ownBlock ∧ some k_ ≠ ((.slice Ao29 t301.length co29) : Value).ownBlock) (.slice Ao26 t295.length co26) t295) ∧ Aside0 (Kd.R (Kd.int .i64) 3 wc w.heap.size (fun k_ => some k_ ≠ ((.slice Ao23 t292.length co23) : Value).ownBlock ∧ some k_ ≠ ((.slice Ao26 t295.length co26) : Value).ownBlock ∧ some k_ ≠ ((.slice Ao29 t301.length co29) : Value).ownBlock) (.slice Ao27 t298.length co27) t298) ∧ Aside0 (Kd.R (Kd.int .i64) 3 wc w.heap.size (fun k_ => some k_ ≠ ((.slice Ao23 t292.length co23) : Value).ownBlock ∧ some k_ ≠ ((.slice Ao26 t295.length co26) : Value).ownBlock ∧ some k_ ≠ ((.slice Ao27 t298.length co27) : Value).ownBlock) (.slice Ao29 t301.length co29) t301) ∧ Aside0 (wc.heap[gb304]? = some (.cells #[(.slice Ao23 t292.length co23), (.slice Ao26 t295.length co26)] 27 (0, 0))) ∧ Aside0 (wc.heap[gb305]? = some (.cells #[(.slice Ao27 t298.length co27), (.slice Ao29 t301.length co29)] 27 (0, 0))) ∧ Aside0 (Below w.heap.size w wc))
           case first =>
            have H := HC45.out
            clear HC45
            by_cases c46 : x12_3 > 0
            ·rw [if_pos c46] at H
             have c46b0 : decide (0 < x12_3) = true := decide_eq_true c46
             clear c46
             (first | rw [c46b0] | (simp only [i64_w, i32_w]; rw [c46b0]) | skip)
             by_cases c47 : 0 ≤ x12_3
             ·rw [if_pos c47] at H
              have c47b0 : decide (0 ≤ x12_3) = true := decide_eq_true c47
              clear c47
              by_cases c48 : x12_3 < (t292.length : Int)
              ·rw [if_pos c48] at H
               have c48b0 : decide (x12_3 < (t292.length : Int)) = true := decide_eq_true c48
               clear c48
               obtain ⟨ji49, hji49⟩ : ∃ j_ : Int, (wrap64 (x12_3 - 1)) = j_ := ⟨_, rfl⟩
               replace H : (if 0 ≤ (ji49) then (if (ji49) < (t292.length : Int) then (if (rd t292 x12_3) < (rd t292 (ji49)) then (flagstonelaw41_SequenceNarrows.j3 k3 t289 x12_3 true t292 t295 t298 t301) else (if x12_3 < (t295.length : Int) then (if (ji49) < (t295.length : Int) then (if (rd t295 x12_3) > (rd t295 (ji49)) then (flagstonelaw41_SequenceNarrows.j3 k3 t289 x12_3 true t292 t295 t298 t301) else (if x12_3 < (t298.length : Int) then (if (rd t292 x12_3) > (rd t298 x12_3) then (flagstonelaw41_SequenceNarrows.j3 k3 t289 x12_3 true t292 t295 t298 t301) else (if x12_3 < (t301.length : Int) then (flagstonelaw41_SequenceNarrows.j3 k3 t289 x12_3 (decide ((rd t295 x12_3) < (rd t301 x12_3))) t292 t295 t298 t301) else (none))) else (none))) else (none)) else (none))) else (none)) else (none)) = some r := by first | (rw [hji49] at H; exact H) | (simp only [hji49] at H ⊢; exact H)
               have hji49w : (IntKind.i64.wrap (x12_3 - 1)) = ji49 := (i64_w _).trans hji49
               by_cases c50 : 0 ≤ (ji49)
               ·rw [if_pos c50] at H
                have c50b0 : decide (0 ≤ (ji49)) = true := decide_eq_true c50
                clear c50
                by_cases c51 : (ji49) < (t292.length : Int)
                ·rw [if_pos c51] at H
                 have c51b0 : decide ((ji49) < (t292.length : Int)) = true := decide_eq_true c51
                 clear c51
                 by_cases c52 : (rd t292 x12_3) < (rd t292 (ji49))
                 ·rw [if_pos c52] at H
                  have c52b0 : decide ((rd t292 x12_3) < (rd t292 (ji49))) = true := decide_eq_true c52
                  clear c52
                  have H' := Aside0.mk H
                  clear H
                  have hnb53 := NB304_305.out
                  have hnc53 := NB305_304.out
                  have hcz54_0 : wr.cell? ⟨gb304, 0, none⟩ = some (.slice Ao23 t292.length co23) := (blk_cell BK304.out 0).trans rfl
                  have hcz54_1 : wr.cell? ⟨gb304, 1, none⟩ = some (.slice Ao26 t295.length co26) := (blk_cell BK304.out 1).trans rfl
                  have hfz54_0 := blk_frozen BK304.out 0
                  have hfz54_1 := blk_frozen BK304.out 1
                  have p306 : 0 ≤ (x12_3 : Int) := of_decide_eq_true (by first | (with_reducible assumption) | assumption)
                  have q306 : x12_3 < (t292.length : Int) := of_decide_eq_true (by first | (with_reducible assumption) | assumption)
                  obtain ⟨ad306, e306, hx306_0⟩ := Kd.at_int (Kd.R_reads' HO_305000.out).2.2 x12_3 p306 q306
                  cases e306
                  replace p306 := eq_true p306
                  replace q306 := eq_true q306
                  have p307 : 0 ≤ ((ji49) : Int) := of_decide_eq_true (by first | (with_reducible assumption) | assumption)
                  have q307 : (ji49) < (t292.length : Int) := of_decide_eq_true (by first | (with_reducible assumption) | assumption)
                  obtain ⟨ad307, e307, hx307_0⟩ := Kd.at_int (Kd.R_reads' HO_305000.out).2.2 (ji49) p307 q307
                  obtain rfl : ad306 = ad307 := (by injection e307)
                  replace p307 := eq_true p307
                  replace q307 := eq_true q307
                  go_wp2
                  repeat (go_quiet (fail); try go_wp2)
                  go_meet
                  case rel => exact ⟨_, (true), (by first | rfl | (simp; done) | (simp [*]; done) | exact congrArg (Value.int _) (by unfold wrap64; omega)), H', ⟨by have := HJ10.out; have := HJ16.out; have := HK3.out; first | omega | exact Nat.le_refl _⟩, ⟨by (with_reducible repeat (first | apply Kd.R_alloc | apply Kd.R_drewN | apply Kd.R_drew)); exact HO_7.out⟩, ⟨by (with_reducible repeat (first | apply Kd.R_alloc | apply Kd.R_drewN | apply Kd.R_drew)); exact HO_305000.out⟩, ⟨by (with_reducible repeat (first | apply Kd.R_alloc | apply Kd.R_drewN | apply Kd.R_drew)); exact HO_305001.out⟩, ⟨by (with_reducible repeat (first | apply Kd.R_alloc | apply Kd.R_drewN | apply Kd.R_drew)); exact HO_306000.out⟩, ⟨by (with_reducible repeat (first | apply Kd.R_alloc | apply Kd.R_drewN | apply Kd.R_drew)); exact HO_306001.out⟩, ⟨by (with_reducible repeat (first | refine blk_drewN ?_ _ | refine blk_drew ?_ | refine blk_alloc ?_ _)); exact BK304.out⟩, ⟨by (with_reducible repeat (first | refine blk_drewN ?_ _ | refine blk_drew ?_ | refine blk_alloc ?_ _)); exact BK305.out⟩, ⟨by repeat (first | (with_reducible first | exact HB.out | apply below_alloc | apply pw_below_drewN | apply below_drew1 | refine below_set ?_ GE304.out | refine below_set ?_ GE305.out) | exact HB.out)⟩⟩
                 ·rw [if_neg c52] at H
                  have c52b0 : decide ((rd t292 x12_3) < (rd t292 (ji49))) = false := decide_eq_false c52
                  clear c52
                  by_cases c55 : x12_3 < (t295.length : Int)
                  ·rw [if_pos c55] at H
                   have c55b0 : decide (x12_3 < (t295.length : Int)) = true := decide_eq_true c55
                   clear c55
                   by_cases c56 : (ji49) < (t295.length : Int)
                   ·rw [if_pos c56] at H
                    have c56b0 : decide ((ji49) < (t295.length : Int)) = true := decide_eq_true c56
                    clear c56
                    by_cases c57 : (rd t295 x12_3) > (rd t295 (ji49))
                    ·rw [if_pos c57] at H
                     have c57b0 : decide ((rd t295 (ji49)) < (rd t295 x12_3)) = true := decide_eq_true c57
                     clear c57
                     have H' := Aside0.mk H
                     clear H
                     have hnb58 := NB304_305.out
                     have hnc58 := NB305_304.out
                     have hcz59_0 : wr.cell? ⟨gb304, 0, none⟩ = some (.slice Ao23 t292.length co23) := (blk_cell BK304.out 0).trans rfl
                     have hcz59_1 : wr.cell? ⟨gb304, 1, none⟩ = some (.slice Ao26 t295.length co26) := (blk_cell BK304.out 1).trans rfl
                     have hfz59_0 := blk_frozen BK304.out 0
                     have hfz59_1 := blk_frozen BK304.out 1
                     have p306 : 0 ≤ (x12_3 : Int) := of_decide_eq_true (by first | (with_reducible assumption) | assumption)
                     have q306 : x12_3 < (t292.length : Int) := of_decide_eq_true (by first | (with_reducible assumption) | assumption)
                     obtain ⟨ad306, e306, hx306_0⟩ := Kd.at_int (Kd.R_reads' HO_305000.out).2.2 x12_3 p306 q306
                     cases e306
                     replace p306 := eq_true p306
                     replace q306 := eq_true q306
                     have p307 : 0 ≤ ((ji49) : Int) := of_decide_eq_true (by first | (with_reducible assumption) | assumption)
                     have q307 : (ji49) < (t292.length : Int) := of_decide_eq_true (by first | (with_reducible assumption) | assumption)
                     obtain ⟨ad307, e307, hx307_0⟩ := Kd.at_int (Kd.R_reads' HO_305000.out).2.2 (ji49) p307 q307
                     obtain rfl : ad306 = ad307 := (by injection e307)
                     replace p307 := eq_true p307
                     replace q307 := eq_true q307
                     have p308 : 0 ≤ (x12_3 : Int) := of_decide_eq_true (by first | (with_reducible assumption) | assumption)
                     have q308 : x12_3 < (t295.length : Int) := of_decide_eq_true (by first | (with_reducible assumption) | assumption)
                     obtain ⟨ad308, e308, hx308_0⟩ := Kd.at_int (Kd.R_reads' HO_305001.out).2.2 x12_3 p308 q308
                     cases e308
                     replace p308 := eq_true p308
                     replace q308 := eq_true q308
                     have p309 : 0 ≤ ((ji49) : Int) := of_decide_eq_true (by first | (with_reducible assumption) | assumption)
                     have q309 : (ji49) < (t295.length : Int) := of_decide_eq_true (by first | (with_reducible assumption) | assumption)
                     obtain ⟨ad309, e309, hx309_0⟩ := Kd.at_int (Kd.R_reads' HO_305001.out).2.2 (ji49) p309 q309
                     obtain rfl : ad308 = ad309 := (by injection e309)
                     replace p309 := eq_true p309
                     replace q309 := eq_true q309
                     go_wp2
                     repeat (go_quiet (fail); try go_wp2)
                     go_meet
                     case rel => exact ⟨_, (true), (by first | rfl | (simp; done) | (simp [*]; done) | exact congrArg (Value.int _) (by unfold wrap64; omega)), H', ⟨by have := HJ10.out; have := HJ16.out; have := HK3.out; first | omega | exact Nat.le_refl _⟩, ⟨by (with_reducible repeat (first | apply Kd.R_alloc | apply Kd.R_drewN | apply Kd.R_drew)); exact HO_7.out⟩, ⟨by (with_reducible repeat (first | apply Kd.R_alloc | apply Kd.R_drewN | apply Kd.R_drew)); exact HO_305000.out⟩, ⟨by (with_reducible repeat (first | apply Kd.R_alloc | apply Kd.R_drewN | apply Kd.R_drew)); exact HO_305001.out⟩, ⟨by (with_reducible repeat (first | apply Kd.R_alloc | apply Kd.R_drewN | apply Kd.R_drew)); exact HO_306000.out⟩, ⟨by (with_reducible repeat (first | apply Kd.R_alloc | apply Kd.R_drewN | apply Kd.R_drew)); exact HO_306001.out⟩, ⟨by (with_reducible repeat (first | refine blk_drewN ?_ _ | refine blk_drew ?_ | refine blk_alloc ?_ _)); exact BK304.out⟩, ⟨by (with_reducible repeat (first | refine blk_drewN ?_ _ | refine blk_drew ?_ | refine blk_alloc ?_ _)); exact BK305.out⟩, ⟨by repeat (first | (with_reducible first | exact HB.out | apply below_alloc | apply pw_below_drewN | apply below_drew1 | refine below_set ?_ GE304.out | refine below_set ?_ GE305.out) | exact HB.out)⟩⟩
                    ·rw [if_neg c57] at H
                     have c57b0 : decide ((rd t295 (ji49)) < (rd t295 x12_3)) = false := decide_eq_false c57
                     clear c57
                     by_cases c60 : x12_3 < (t298.length : Int)
                     ·rw [if_pos c60] at H
                      have c60b0 : decide (x12_3 < (t298.length : Int)) = true := decide_eq_true c60
                      clear c60
                      by_cases c61 : (rd t292 x12_3) > (rd t298 x12_3)
                      ·rw [if_pos c61] at H
                       have c61b0 : decide ((rd t298 x12_3) < (rd t292 x12_3)) = true := decide_eq_true c61
                       clear c61
                       have H' := Aside0.mk H
                       clear H
                       have hnb62 := NB304_305.out
                       have hnc62 := NB305_304.out
                       have hcz63_0 : wr.cell? ⟨gb304, 0, none⟩ = some (.slice Ao23 t292.length co23) := (blk_cell BK304.out 0).trans rfl
                       have hcz63_1 : wr.cell? ⟨gb304, 1, none⟩ = some (.slice Ao26 t295.length co26) := (blk_cell BK304.out 1).trans rfl
                       have hfz63_0 := blk_frozen BK304.out 0
                       have hfz63_1 := blk_frozen BK304.out 1
                       have p306 : 0 ≤ (x12_3 : Int) := of_decide_eq_true (by first | (with_reducible assumption) | assumption)
                       have q306 : x12_3 < (t292.length : Int) := of_decide_eq_true (by first | (with_reducible assumption) | assumption)
                       obtain ⟨ad306, e306, hx306_0⟩ := Kd.at_int (Kd.R_reads' HO_305000.out).2.2 x12_3 p306 q306
                       cases e306
                       replace p306 := eq_true p306
                       replace q306 := eq_true q306
                       have p307 : 0 ≤ ((ji49) : Int) := of_decide_eq_true (by first | (with_reducible assumption) | assumption)
                       have q307 : (ji49) < (t292.length : Int) := of_decide_eq_true (by first | (with_reducible assumption) | assumption)
                       obtain ⟨ad307, e307, hx307_0⟩ := Kd.at_int (Kd.R_reads' HO_305000.out).2.2 (ji49) p307 q307
                       obtain rfl : ad306 = ad307 := (by injection e307)
                       replace p307 := eq_true p307
                       replace q307 := eq_true q307
                       have p308 : 0 ≤ (x12_3 : Int) := of_decide_eq_true (by first | (with_reducible assumption) | assumption)
                       have q308 : x12_3 < (t295.length : Int) := of_decide_eq_true (by first | (with_reducible assumption) | assumption)
                       obtain ⟨ad308, e308, hx308_0⟩ := Kd.at_int (Kd.R_reads' HO_305001.out).2.2 x12_3 p308 q308
                       cases e308
                       replace p308 := eq_true p308
                       replace q308 := eq_true q308
                       have p309 : 0 ≤ ((ji49) : Int) := of_decide_eq_true (by first | (with_reducible assumption) | assumption)
                       have q309 : (ji49) < (t295.length : Int) := of_decide_eq_true (by first | (with_reducible assumption) | assumption)
                       obtain ⟨ad309, e309, hx309_0⟩ := Kd.at_int (Kd.R_reads' HO_305001.out).2.2 (ji49) p309 q309
                       obtain rfl : ad308 = ad309 := (by injection e309)
                       replace p309 := eq_true p309
                       replace q309 := eq_true q309
                       have p310 : 0 ≤ (x12_3 : Int) := of_decide_eq_true (by first | (with_reducible assumption) | assumption)
                       have q310 : x12_3 < (t292.length : Int) := of_decide_eq_true (by first | (with_reducible assumption) | assumption)
                       obtain ⟨ad310, e310, hx310_0⟩ := Kd.at_int (Kd.R_reads' HO_305000.out).2.2 x12_3 p310 q310
                       obtain rfl : ad306 = ad310 := (by injection e310)
                       replace p310 := eq_true p310
                       replace q310 := eq_true q310
                       have hcz64_0 : wr.cell? ⟨gb305, 0, none⟩ = some (.slice Ao27 t298.length co27) := (blk_cell BK305.out 0).trans rfl
                       have hcz64_1 : wr.cell? ⟨gb305, 1, none⟩ = some (.slice Ao29 t301.length co29) := (blk_cell BK305.out 1).trans rfl
                       have hfz64_0 := blk_frozen BK305.out 0
                       have hfz64_1 := blk_frozen BK305.out 1
                       have p311 : 0 ≤ (x12_3 : Int) := of_decide_eq_true (by first | (with_reducible assumption) | assumption)
                       have q311 : x12_3 < (t298.length : Int) := of_decide_eq_true (by first | (with_reducible assumption) | assumption)
                       obtain ⟨ad311, e311, hx311_0⟩ := Kd.at_int (Kd.R_reads' HO_306000.out).2.2 x12_3 p311 q311
                       cases e311
                       replace p311 := eq_true p311
                       replace q311 := eq_true q311
                       go_wp2
                       repeat (go_quiet (fail); try go_wp2)
                       go_meet
                       case rel => exact ⟨_, (true), (by first | rfl | (simp; done) | (simp [*]; done) | exact congrArg (Value.int _) (by unfold wrap64; omega)), H', ⟨by have := HJ10.out; have := HJ16.out; have := HK3.out; first | omega | exact Nat.le_refl _⟩, ⟨by (with_reducible repeat (first | apply Kd.R_alloc | apply Kd.R_drewN | apply Kd.R_drew)); exact HO_7.out⟩, ⟨by (with_reducible repeat (first | apply Kd.R_alloc | apply Kd.R_drewN | apply Kd.R_drew)); exact HO_305000.out⟩, ⟨by (with_reducible repeat (first | apply Kd.R_alloc | apply Kd.R_drewN | apply Kd.R_drew)); exact HO_305001.out⟩, ⟨by (with_reducible repeat (first | apply Kd.R_alloc | apply Kd.R_drewN | apply Kd.R_drew)); exact HO_306000.out⟩, ⟨by (with_reducible repeat (first | apply Kd.R_alloc | apply Kd.R_drewN | apply Kd.R_drew)); exact HO_306001.out⟩, ⟨by (with_reducible repeat (first | refine blk_drewN ?_ _ | refine blk_drew ?_ | refine blk_alloc ?_ _)); exact BK304.out⟩, ⟨by (with_reducible repeat (first | refine blk_drewN ?_ _ | refine blk_drew ?_ | refine blk_alloc ?_ _)); exact BK305.out⟩, ⟨by repeat (first | (with_reducible first | exact HB.out | apply below_alloc | apply pw_below_drewN | apply below_drew1 | refine below_set ?_ GE304.out | refine below_set ?_ GE305.out) | exact HB.out)⟩⟩
                      ·rw [if_neg c61] at H
                       have c61b0 : decide ((rd t298 x12_3) < (rd t292 x12_3)) = false := decide_eq_false c61
                       clear c61
                       by_cases c65 : x12_3 < (t301.length : Int)
                       ·rw [if_pos c65] at H
                        have c65b0 : decide (x12_3 < (t301.length : Int)) = true := decide_eq_true c65
                        clear c65
                        have H' := Aside0.mk H
                        clear H
                        have hnb66 := NB304_305.out
                        have hnc66 := NB305_304.out
                        have hcz67_0 : wr.cell? ⟨gb304, 0, none⟩ = some (.slice Ao23 t292.length co23) := (blk_cell BK304.out 0).trans rfl
                        have hcz67_1 : wr.cell? ⟨gb304, 1, none⟩ = some (.slice Ao26 t295.length co26) := (blk_cell BK304.out 1).trans rfl
                        have hfz67_0 := blk_frozen BK304.out 0
                        have hfz67_1 := blk_frozen BK304.out 1
                        have p306 : 0 ≤ (x12_3 : Int) := of_decide_eq_true (by first | (with_reducible assumption) | assumption)
                        have q306 : x12_3 < (t292.length : Int) := of_decide_eq_true (by first | (with_reducible assumption) | assumption)
                        obtain ⟨ad306, e306, hx306_0⟩ := Kd.at_int (Kd.R_reads' HO_305000.out).2.2 x12_3 p306 q306
                        cases e306
                        replace p306 := eq_true p306
                        replace q306 := eq_true q306
                        have p307 : 0 ≤ ((ji49) : Int) := of_decide_eq_true (by first | (with_reducible assumption) | assumption)
                        have q307 : (ji49) < (t292.length : Int) := of_decide_eq_true (by first | (with_reducible assumption) | assumption)
                        obtain ⟨ad307, e307, hx307_0⟩ := Kd.at_int (Kd.R_reads' HO_305000.out).2.2 (ji49) p307 q307
                        obtain rfl : ad306 = ad307 := (by injection e307)
                        replace p307 := eq_true p307
                        replace q307 := eq_true q307
                        have p308 : 0 ≤ (x12_3 : Int) := of_decide_eq_true (by first | (with_reducible assumption) | assumption)
                        have q308 : x12_3 < (t295.length : Int) := of_decide_eq_true (by first | (with_reducible assumption) | assumption)
                        obtain ⟨ad308, e308, hx308_0⟩ := Kd.at_int (Kd.R_reads' HO_305001.out).2.2 x12_3 p308 q308
                        cases e308
                        replace p308 := eq_true p308
                        replace q308 := eq_true q308
                        have p309 : 0 ≤ ((ji49) : Int) := of_decide_eq_true (by first | (with_reducible assumption) | assumption)
                        have q309 : (ji49) < (t295.length : Int) := of_decide_eq_true (by first | (with_reducible assumption) | assumption)
                        obtain ⟨ad309, e309, hx309_0⟩ := Kd.at_int (Kd.R_reads' HO_305001.out).2.2 (ji49) p309 q309
                        obtain rfl : ad308 = ad309 := (by injection e309)
                        replace p309 := eq_true p309
                        replace q309 := eq_true q309
                        have p310 : 0 ≤ (x12_3 : Int) := of_decide_eq_true (by first | (with_reducible assumption) | assumption)
                        have q310 : x12_3 < (t292.length : Int) := of_decide_eq_true (by first | (with_reducible assumption) | assumption)
                        obtain ⟨ad310, e310, hx310_0⟩ := Kd.at_int (Kd.R_reads' HO_305000.out).2.2 x12_3 p310 q310
                        obtain rfl : ad306 = ad310 := (by injection e310)
                        replace p310 := eq_true p310
                        replace q310 := eq_true q310
                        have hcz68_0 : wr.cell? ⟨gb305, 0, none⟩ = some (.slice Ao27 t298.length co27) := (blk_cell BK305.out 0).trans rfl
                        have hcz68_1 : wr.cell? ⟨gb305, 1, none⟩ = some (.slice Ao29 t301.length co29) := (blk_cell BK305.out 1).trans rfl
                        have hfz68_0 := blk_frozen BK305.out 0
                        have hfz68_1 := blk_frozen BK305.out 1
                        have p311 : 0 ≤ (x12_3 : Int) := of_decide_eq_true (by first | (with_reducible assumption) | assumption)
                        have q311 : x12_3 < (t298.length : Int) := of_decide_eq_true (by first | (with_reducible assumption) | assumption)
                        obtain ⟨ad311, e311, hx311_0⟩ := Kd.at_int (Kd.R_reads' HO_306000.out).2.2 x12_3 p311 q311
                        cases e311
                        replace p311 := eq_true p311
                        replace q311 := eq_true q311
                        have p312 : 0 ≤ (x12_3 : Int) := of_decide_eq_true (by first | (with_reducible assumption) | assumption)
                        have q312 : x12_3 < (t295.length : Int) := of_decide_eq_true (by first | (with_reducible assumption) | assumption)
                        obtain ⟨ad312, e312, hx312_0⟩ := Kd.at_int (Kd.R_reads' HO_305001.out).2.2 x12_3 p312 q312
                        obtain rfl : ad308 = ad312 := (by injection e312)
                        replace p312 := eq_true p312
                        replace q312 := eq_true q312
                        have p313 : 0 ≤ (x12_3 : Int) := of_decide_eq_true (by first | (with_reducible assumption) | assumption)
                        have q313 : x12_3 < (t301.length : Int) := of_decide_eq_true (by first | (with_reducible assumption) | assumption)
                        obtain ⟨ad313, e313, hx313_0⟩ := Kd.at_int (Kd.R_reads' HO_306001.out).2.2 x12_3 p313 q313
                        cases e313
                        replace p313 := eq_true p313
                        replace q313 := eq_true q313
                        go_wp2
                        repeat (go_quiet (fail); try go_wp2)
                        go_meet
                        case rel => exact ⟨_, (decide ((rd t295 x12_3) < (rd t301 x12_3))), (by first | rfl | (simp; done) | (simp [*]; done) | exact congrArg (Value.int _) (by unfold wrap64; omega)), H', ⟨by have := HJ10.out; have := HJ16.out; have := HK3.out; first | omega | exact Nat.le_refl _⟩, ⟨by (with_reducible repeat (first | apply Kd.R_alloc | apply Kd.R_drewN | apply Kd.R_drew)); exact HO_7.out⟩, ⟨by (with_reducible repeat (first | apply Kd.R_alloc | apply Kd.R_drewN | apply Kd.R_drew)); exact HO_305000.out⟩, ⟨by (with_reducible repeat (first | apply Kd.R_alloc | apply Kd.R_drewN | apply Kd.R_drew)); exact HO_305001.out⟩, ⟨by (with_reducible repeat (first | apply Kd.R_alloc | apply Kd.R_drewN | apply Kd.R_drew)); exact HO_306000.out⟩, ⟨by (with_reducible repeat (first | apply Kd.R_alloc | apply Kd.R_drewN | apply Kd.R_drew)); exact HO_306001.out⟩, ⟨by (with_reducible repeat (first | refine blk_drewN ?_ _ | refine blk_drew ?_ | refine blk_alloc ?_ _)); exact BK304.out⟩, ⟨by (with_reducible repeat (first | refine blk_drewN ?_ _ | refine blk_drew ?_ | refine blk_alloc ?_ _)); exact BK305.out⟩, ⟨by repeat (first | (with_reducible first | exact HB.out | apply below_alloc | apply pw_below_drewN | apply below_drew1 | refine below_set ?_ GE304.out | refine below_set ?_ GE305.out) | exact HB.out)⟩⟩
                       ·rw [if_neg c65] at H
                        exact absurd H (by simp)
                     ·rw [if_neg c60] at H
                      exact absurd H (by simp)
                   ·rw [if_neg c56] at H
                    exact absurd H (by simp)
                  ·rw [if_neg c55] at H
                   exact absurd H (by simp)
                ·rw [if_neg c51] at H
                 exact absurd H (by simp)
               ·rw [if_neg c50] at H
                exact absurd H (by simp)
              ·rw [if_neg c48] at H
               exact absurd H (by simp)
             ·rw [if_neg c47] at H
              exact absurd H (by simp)
            ·rw [if_neg c46] at H
             have c46b0 : decide (0 < x12_3) = false := decide_eq_false c46
             clear c46
             (first | rw [c46b0] | (simp only [i64_w, i32_w]; rw [c46b0]) | skip)
             by_cases c69 : 0 ≤ x12_3
             ·rw [if_pos c69] at H
              have c69b0 : decide (0 ≤ x12_3) = true := decide_eq_true c69
              clear c69
              by_cases c70 : x12_3 < (t292.length : Int)
              ·rw [if_pos c70] at H
               have c70b0 : decide (x12_3 < (t292.length : Int)) = true := decide_eq_true c70
               clear c70
               by_cases c71 : x12_3 < (t298.length : Int)
               ·rw [if_pos c71] at H
                have c71b0 : decide (x12_3 < (t298.length : Int)) = true := decide_eq_true c71
                clear c71
                by_cases c72 : (rd t292 x12_3) > (rd t298 x12_3)
                ·rw [if_pos c72] at H
                 have c72b0 : decide ((rd t298 x12_3) < (rd t292 x12_3)) = true := decide_eq_true c72
                 clear c72
                 have H' := Aside0.mk H
                 clear H
                 have hnb73 := NB304_305.out
                 have hnc73 := NB305_304.out
                 have hcz74_0 : wr.cell? ⟨gb304, 0, none⟩ = some (.slice Ao23 t292.length co23) := (blk_cell BK304.out 0).trans rfl
                 have hcz74_1 : wr.cell? ⟨gb304, 1, none⟩ = some (.slice Ao26 t295.length co26) := (blk_cell BK304.out 1).trans rfl
                 have hfz74_0 := blk_frozen BK304.out 0
                 have hfz74_1 := blk_frozen BK304.out 1
                 have p314 : 0 ≤ (x12_3 : Int) := of_decide_eq_true (by first | (with_reducible assumption) | assumption)
                 have q314 : x12_3 < (t292.length : Int) := of_decide_eq_true (by first | (with_reducible assumption) | assumption)
                 obtain ⟨ad314, e314, hx314_0⟩ := Kd.at_int (Kd.R_reads' HO_305000.out).2.2 x12_3 p314 q314
                 cases e314
                 replace p314 := eq_true p314
                 replace q314 := eq_true q314
                 have hcz75_0 : wr.cell? ⟨gb305, 0, none⟩ = some (.slice Ao27 t298.length co27) := (blk_cell BK305.out 0).trans rfl
                 have hcz75_1 : wr.cell? ⟨gb305, 1, none⟩ = some (.slice Ao29 t301.length co29) := (blk_cell BK305.out 1).trans rfl
                 have hfz75_0 := blk_frozen BK305.out 0
                 have hfz75_1 := blk_frozen BK305.out 1
                 have p315 : 0 ≤ (x12_3 : Int) := of_decide_eq_true (by first | (with_reducible assumption) | assumption)
                 have q315 : x12_3 < (t298.length : Int) := of_decide_eq_true (by first | (with_reducible assumption) | assumption)
                 obtain ⟨ad315, e315, hx315_0⟩ := Kd.at_int (Kd.R_reads' HO_306000.out).2.2 x12_3 p315 q315
                 cases e315
                 replace p315 := eq_true p315
                 replace q315 := eq_true q315
                 go_wp2
                 repeat (go_quiet (fail); try go_wp2)
                 go_meet
                 case rel => exact ⟨_, (true), (by first | rfl | (simp; done) | (simp [*]; done) | exact congrArg (Value.int _) (by unfold wrap64; omega)), H', ⟨by have := HJ10.out; have := HJ16.out; have := HK3.out; first | omega | exact Nat.le_refl _⟩, ⟨by (with_reducible repeat (first | apply Kd.R_alloc | apply Kd.R_drewN | apply Kd.R_drew)); exact HO_7.out⟩, ⟨by (with_reducible repeat (first | apply Kd.R_alloc | apply Kd.R_drewN | apply Kd.R_drew)); exact HO_305000.out⟩, ⟨by (with_reducible repeat (first | apply Kd.R_alloc | apply Kd.R_drewN | apply Kd.R_drew)); exact HO_305001.out⟩, ⟨by (with_reducible repeat (first | apply Kd.R_alloc | apply Kd.R_drewN | apply Kd.R_drew)); exact HO_306000.out⟩, ⟨by (with_reducible repeat (first | apply Kd.R_alloc | apply Kd.R_drewN | apply Kd.R_drew)); exact HO_306001.out⟩, ⟨by (with_reducible repeat (first | refine blk_drewN ?_ _ | refine blk_drew ?_ | refine blk_alloc ?_ _)); exact BK304.out⟩, ⟨by (with_reducible repeat (first | refine blk_drewN ?_ _ | refine blk_drew ?_ | refine blk_alloc ?_ _)); exact BK305.out⟩, ⟨by repeat (first | (with_reducible first | exact HB.out | apply below_alloc | apply pw_below_drewN | apply below_drew1 | refine below_set ?_ GE304.out | refine below_set ?_ GE305.out) | exact HB.out)⟩⟩
                ·rw [if_neg c72] at H
                 have c72b0 : decide ((rd t298 x12_3) < (rd t292 x12_3)) = false := decide_eq_false c72
                 clear c72
                 by_cases c76 : x12_3 < (t295.length : Int)
                 ·rw [if_pos c76] at H
                  have c76b0 : decide (x12_3 < (t295.length : Int)) = true := decide_eq_true c76
                  clear c76
                  by_cases c77 : x12_3 < (t301.length : Int)
                  ·rw [if_pos c77] at H
                   have c77b0 : decide (x12_3 < (t301.length : Int)) = true := decide_eq_true c77
                   clear c77
                   have H' := Aside0.mk H
                   clear H
                   have hnb78 := NB304_305.out
                   have hnc78 := NB305_304.out
                   have hcz79_0 : wr.cell? ⟨gb304, 0, none⟩ = some (.slice Ao23 t292.length co23) := (blk_cell BK304.out 0).trans rfl
                   have hcz79_1 : wr.cell? ⟨gb304, 1, none⟩ = some (.slice Ao26 t295.length co26) := (blk_cell BK304.out 1).trans rfl
                   have hfz79_0 := blk_frozen BK304.out 0
                   have hfz79_1 := blk_frozen BK304.out 1
                   have p314 : 0 ≤ (x12_3 : Int) := of_decide_eq_true (by first | (with_reducible assumption) | assumption)
                   have q314 : x12_3 < (t292.length : Int) := of_decide_eq_true (by first | (with_reducible assumption) | assumption)
                   obtain ⟨ad314, e314, hx314_0⟩ := Kd.at_int (Kd.R_reads' HO_305000.out).2.2 x12_3 p314 q314
                   cases e314
                   replace p314 := eq_true p314
                   replace q314 := eq_true q314
                   have hcz80_0 : wr.cell? ⟨gb305, 0, none⟩ = some (.slice Ao27 t298.length co27) := (blk_cell BK305.out 0).trans rfl
                   have hcz80_1 : wr.cell? ⟨gb305, 1, none⟩ = some (.slice Ao29 t301.length co29) := (blk_cell BK305.out 1).trans rfl
                   have hfz80_0 := blk_frozen BK305.out 0
                   have hfz80_1 := blk_frozen BK305.out 1
                   have p315 : 0 ≤ (x12_3 : Int) := of_decide_eq_true (by first | (with_reducible assumption) | assumption)
                   have q315 : x12_3 < (t298.length : Int) := of_decide_eq_true (by first | (with_reducible assumption) | assumption)
                   obtain ⟨ad315, e315, hx315_0⟩ := Kd.at_int (Kd.R_reads' HO_306000.out).2.2 x12_3 p315 q315
                   cases e315
                   replace p315 := eq_true p315
                   replace q315 := eq_true q315
                   have p316 : 0 ≤ (x12_3 : Int) := of_decide_eq_true (by first | (with_reducible assumption) | assumption)
                   have q316 : x12_3 < (t295.length : Int) := of_decide_eq_true (by first | (with_reducible assumption) | assumption)
                   obtain ⟨ad316, e316, hx316_0⟩ := Kd.at_int (Kd.R_reads' HO_305001.out).2.2 x12_3 p316 q316
                   cases e316
                   replace p316 := eq_true p316
                   replace q316 := eq_true q316
                   have p317 : 0 ≤ (x12_3 : Int) := of_decide_eq_true (by first | (with_reducible assumption) | assumption)
                   have q317 : x12_3 < (t301.length : Int) := of_decide_eq_true (by first | (with_reducible assumption) | assumption)
                   obtain ⟨ad317, e317, hx317_0⟩ := Kd.at_int (Kd.R_reads' HO_306001.out).2.2 x12_3 p317 q317
                   cases e317
                   replace p317 := eq_true p317
                   replace q317 := eq_true q317
                   go_wp2
                   repeat (go_quiet (fail); try go_wp2)
                   go_meet
                   case rel => exact ⟨_, (decide ((rd t295 x12_3) < (rd t301 x12_3))), (by first | rfl | (simp; done) | (simp [*]; done) | exact congrArg (Value.int _) (by unfold wrap64; omega)), H', ⟨by have := HJ10.out; have := HJ16.out; have := HK3.out; first | omega | exact Nat.le_refl _⟩, ⟨by (with_reducible repeat (first | apply Kd.R_alloc | apply Kd.R_drewN | apply Kd.R_drew)); exact HO_7.out⟩, ⟨by (with_reducible repeat (first | apply Kd.R_alloc | apply Kd.R_drewN | apply Kd.R_drew)); exact HO_305000.out⟩, ⟨by (with_reducible repeat (first | apply Kd.R_alloc | apply Kd.R_drewN | apply Kd.R_drew)); exact HO_305001.out⟩, ⟨by (with_reducible repeat (first | apply Kd.R_alloc | apply Kd.R_drewN | apply Kd.R_drew)); exact HO_306000.out⟩, ⟨by (with_reducible repeat (first | apply Kd.R_alloc | apply Kd.R_drewN | apply Kd.R_drew)); exact HO_306001.out⟩, ⟨by (with_reducible repeat (first | refine blk_drewN ?_ _ | refine blk_drew ?_ | refine blk_alloc ?_ _)); exact BK304.out⟩, ⟨by (with_reducible repeat (first | refine blk_drewN ?_ _ | refine blk_drew ?_ | refine blk_alloc ?_ _)); exact BK305.out⟩, ⟨by repeat (first | (with_reducible first | exact HB.out | apply below_alloc | apply pw_below_drewN | apply below_drew1 | refine below_set ?_ GE304.out | refine below_set ?_ GE305.out) | exact HB.out)⟩⟩
                  ·rw [if_neg c77] at H
                   exact absurd H (by simp)
                 ·rw [if_neg c76] at H
                  exact absurd H (by simp)
               ·rw [if_neg c71] at H
                exact absurd H (by simp)
              ·rw [if_neg c70] at H
               exact absurd H (by simp)
             ·rw [if_neg c69] at H
              exact absurd H (by simp)
           case rest =>
            clear HC45
            try clear c1
            try clear c2
            try clear p2
            try clear c3
            try clear p3
            try clear q3
            try clear hx3
            try clear c4
            try clear c5
            try clear c6
            try clear c6b0
            try clear c6b1
            try clear p6
            try clear c7
            try clear c9
            try clear c14
            try clear c14b0
            try clear c24
            try clear c30
            try clear c30b0
            try clear c30b1
            try clear c30b2
            try clear p30
            try clear q30
            try clear hx30
            try clear c31
            try clear c31b0
            try clear c31b1
            try clear c31b2
            try clear p31
            try clear q31
            try clear hx31
            try clear c32
            try clear c32b0
            try clear c32b1
            try clear c32b2
            try clear c33
            try clear c36
            try clear c39
            try clear c41
            try clear c43
            try clear c44
            try clear c44b0
            try clear c46
            try clear c46b0
            try clear c47
            try clear c47b0
            try clear c48
            try clear c48b0
            try clear c50
            try clear c50b0
            try clear c51
            try clear c51b0
            try clear c52
            try clear c52b0
            try clear c53
            try clear c55
            try clear c55b0
            try clear c56
            try clear c56b0
            try clear c57
            try clear c57b0
            try clear c58
            try clear c60
            try clear c60b0
            try clear c61
            try clear c61b0
            try clear c62
            try clear p64
            try clear c65
            try clear c65b0
            try clear c66
            try clear c69
            try clear c69b0
            try clear c70
            try clear c70b0
            try clear c71
            try clear c71b0
            try clear c72
            try clear c72b0
            try clear c73
            try clear c76
            try clear c76b0
            try clear c77
            try clear c77b0
            try clear c78
            try clear hcz25_0
            try clear hcz25_1
            try clear hcz28_0
            try clear hcz28_1
            try clear hcz34_0
            try clear hcz34_1
            try clear hcz35_0
            try clear hcz35_1
            try clear hcz37_0
            try clear hcz37_1
            try clear hcz38_0
            try clear hcz38_1
            try clear hcz40_0
            try clear hcz40_1
            try clear hcz42_0
            try clear hcz42_1
            try clear hcz54_0
            try clear hcz54_1
            try clear hcz59_0
            try clear hcz59_1
            try clear hcz63_0
            try clear hcz63_1
            try clear hcz64_0
            try clear hcz64_1
            try clear hcz67_0
            try clear hcz67_1
            try clear hcz68_0
            try clear hcz68_1
            try clear hcz74_0
            try clear hcz74_1
            try clear hcz75_0
            try clear hcz75_1
            try clear hcz79_0
            try clear hcz79_1
            try clear hcz80_0
            try clear hcz80_1
            try clear hfz25_0
            try clear hfz25_1
            try clear hfz28_0
            try clear hfz28_1
            try clear hfz34_0
            try clear hfz34_1
            try clear hfz35_0
            try clear hfz35_1
            try clear hfz37_0
            try clear hfz37_1
            try clear hfz38_0
            try clear hfz38_1
            try clear hfz40_0
            try clear hfz40_1
            try clear hfz42_0
            try clear hfz42_1
            try clear hfz54_0
            try clear hfz54_1
            try clear hfz59_0
            try clear hfz59_1
            try clear hfz63_0
            try clear hfz63_1
            try clear hfz64_0
            try clear hfz64_1
            try clear hfz67_0
            try clear hfz67_1
            try clear hfz68_0
            try clear hfz68_1
            try clear hfz74_0
            try clear hfz74_1
            try clear hfz75_0
            try clear hfz75_1
            try clear hfz79_0
            try clear hfz79_1
            try clear hfz80_0
            try clear hfz80_1
            try clear hx306_0
            try clear hx307_0
            try clear hx308_0
            try clear hx309_0
            try clear hx310_0
            try clear hx311_0
            try clear hx312_0
            try clear hx313_0
            try clear hx314_0
            try clear hx315_0
            try clear hx316_0
            try clear hx317_0
            try clear p2
            try clear p306
            try clear p307
            try clear p308
            try clear p309
            try clear p310
            try clear p311
            try clear p312
            try clear p313
            try clear p314
            try clear p315
            try clear p316
            try clear p317
            try clear p6
            try clear q306
            try clear q307
            try clear q308
            try clear q309
            try clear q310
            try clear q311
            try clear q312
            try clear q313
            try clear q314
            try clear q315
            try clear q316
            try clear q317
            obtain ⟨kq, x134_44, rfl, HA, HJ44, HO_7, HO_305000, HO_305001, HO_306000, HO_306001, BK304, BK305, HB⟩ := hcut
            cases kq with
            | zero => exact absurd HA.out (by simp [flagstonelaw41_SequenceNarrows.j3])
            | succ kj44 =>
             have H := HA.out
             clear HA
             simp only [flagstonelaw41_SequenceNarrows.j3] at H
             by_cases c81 : x134_44 = true
             ·subst c81
              have H1 : (some false) = some r := by rw [if_pos rfl] at H; exact H
              clear H
              have H := H1
              clear H1
              obtain rfl := Option.some.inj H
              go_wp2
              repeat (go_quiet (fail); try go_wp2)
              go_ret
              exact ⟨by first | rfl | (simp [errW_none, errW_some] <;> rfl) | (simp only [← hji9, ← hji10]; first | rfl | (simp [errW_none, errW_some] <;> rfl)) | (simp [*, errW_none, errW_some] <;> rfl), by repeat (first | (with_reducible first | exact HB.out | apply below_alloc | apply pw_below_drewN | apply below_drew1 | refine below_set ?_ GE304.out | refine below_set ?_ GE305.out) | exact HB.out)⟩
             ·replace c81 := Bool.eq_false_iff.mpr c81
              subst c81
              have H1 : (flagstonelaw41_SequenceNarrows.l0 kj44 t289 (wrap64 (x12_3 + 1)) t292 t295 t298 t301) = some r := by rw [if_neg (show ¬ (false = true) by decide)] at H; exact H
              clear H
              have H := H1
              clear H1
              have H' := Aside0.mk H
              clear H
              go_wp2
              repeat (go_quiet (fail); try go_wp2)
              go_roundg kj44
              case measure => have := HJ10.out; have := HJ16.out; have := HK3.out; have := HJ44.out; omega
              case rel => exact ⟨(wrap64 (x12_3 + 1)), (by first | rfl | (simp; done) | (simp [*]; done) | exact congrArg (Value.int _) (by unfold wrap64; omega)), H', ⟨by have := HJ10.out; have := HJ16.out; have := HK3.out; have := HJ44.out; omega⟩, ⟨by (with_reducible repeat (first | apply Kd.R_alloc | apply Kd.R_drewN | apply Kd.R_drew)); exact HO_7.out⟩, ⟨by (with_reducible repeat (first | apply Kd.R_alloc | apply Kd.R_drewN | apply Kd.R_drew)); exact HO_305000.out⟩, ⟨by (with_reducible repeat (first | apply Kd.R_alloc | apply Kd.R_drewN | apply Kd.R_drew)); exact HO_305001.out⟩, ⟨by (with_reducible repeat (first | apply Kd.R_alloc | apply Kd.R_drewN | apply Kd.R_drew)); exact HO_306000.out⟩, ⟨by (with_reducible repeat (first | apply Kd.R_alloc | apply Kd.R_drewN | apply Kd.R_drew)); exact HO_306001.out⟩, ⟨by (with_reducible repeat (first | refine blk_drewN ?_ _ | refine blk_drew ?_ | refine blk_alloc ?_ _)); exact BK304.out⟩, ⟨by (with_reducible repeat (first | refine blk_drewN ?_ _ | refine blk_drew ?_ | refine blk_alloc ?_ _)); exact BK305.out⟩, ⟨by repeat (first | (with_reducible first | exact HB.out | apply below_alloc | apply pw_below_drewN | apply below_drew1 | refine below_set ?_ GE304.out | refine below_set ?_ GE305.out) | exact HB.out)⟩⟩
          ·rw [if_neg c44] at H
           have c44b0 : decide (x12_3 < (t289.length : Int)) = false := decide_eq_false c44
           clear c44
           obtain rfl := Option.some.inj H
           go_wp2
           repeat (go_quiet (fail); try go_wp2)
           go_ret
           exact ⟨by first | rfl | (simp [errW_none, errW_some] <;> rfl) | (simp only [← hji9, ← hji10]; first | rfl | (simp [errW_none, errW_some] <;> rfl)) | (simp [*, errW_none, errW_some] <;> rfl), by repeat (first | (with_reducible first | exact HB.out | apply below_alloc | apply pw_below_drewN | apply below_drew1 | refine below_set ?_ GE304.out | refine below_set ?_ GE305.out) | exact HB.out)⟩
 ·replace c5 := Bool.eq_false_iff.mpr c5
  subst c5
  have H1 : (some false) = some r := by rw [if_neg (show ¬ (false = true) by decide)] at H; exact H
  clear H
  have H := H1
  clear H1
  obtain rfl := Option.some.inj H
  go_enter Try.func9, Try.ntmps9
  go_wp2_with (first | (go_at_call 10; (with_reducible refine (flagstonelaw41_awake.calls k  false _ A4.out).mono ?_); rintro e w82 ⟨rfl, hb⟩; have n0_ := Aside0.mk (below_step (by repeat (first | (with_reducible first | exact HB.out | apply below_alloc | apply pw_below_drewN | apply below_drew1) | exact HB.out)) hb); clear HB; have HB := n0_; clear n0_; (try clear hb); (try clear hb2); (try clear hk); (try clear hi)))
  repeat (go_quiet (first | (go_at_call 10; (with_reducible refine (flagstonelaw41_awake.calls k  false _ A4.out).mono ?_); rintro e w82 ⟨rfl, hb⟩; have n0_ := Aside0.mk (below_step (by repeat (first | (with_reducible first | exact HB.out | apply below_alloc | apply pw_below_drewN | apply below_drew1) | exact HB.out)) hb); clear HB; have HB := n0_; clear n0_; (try clear hb); (try clear hb2); (try clear hk); (try clear hi))); try go_wp2_with (first | (go_at_call 10; (with_reducible refine (flagstonelaw41_awake.calls k  false _ A4.out).mono ?_); rintro e w82 ⟨rfl, hb⟩; have n0_ := Aside0.mk (below_step (by repeat (first | (with_reducible first | exact HB.out | apply below_alloc | apply pw_below_drewN | apply below_drew1) | exact HB.out)) hb); clear HB; have HB := n0_; clear n0_; (try clear hb); (try clear hb2); (try clear hk); (try clear hi))))
  go_ret
  exact ⟨by first | rfl | (simp [errW_none, errW_some] <;> rfl) | (simp [*, errW_none, errW_some] <;> rfl), by repeat (first | (with_reducible first | exact HB.out | apply below_alloc | apply pw_below_drewN | apply below_drew1) | exact HB.out)⟩

/-- THE ONE PURE STATEMENT of flagstonelaw41_SequenceNarrows: yours. -/
def flagstonelaw41_SequenceNarrows.Pure : Prop := ∀ (l0 : List Int) (a1 : Int) (a2 : Int), l0.length ≤ maxLen → l0.length * 1 ≤ 140737488351232 → (∀ x ∈ l0, (Lit.int .u8 x).wf = true) → (Lit.int .u16 a1).wf = true → (Lit.int .u16 a2).wf = true → ∃ k, flagstonelaw41_SequenceNarrows.f k l0 a1 a2 = some true
theorem flagstonelaw41_SequenceNarrows.walk (P : flagstonelaw41_SequenceNarrows.Pure) (a0 : Option Addr) (len0 cap0 : Nat) (z0 : List Int) (a1 : Int) (a2 : Int) (w : World) (w0 : (a0 = none ∧ len0 = 0 ∧ cap0 = 0 ∧ z0 = []) ∨ ∃ x, a0 = some x ∧ len0 ≤ cap0 ∧ cap0 ≤ maxLen ∧ z0.length = cap0 ∧ (∀ i, i < z0.length → w.cell? (x.add i) = some (.int .u8 (z0.getD i 0))) ∧ ∀ n ∈ z0, (Lit.int .u8 n).wf = true) (y0 : len0 * 1 ≤ 140737488351232) (w1 : (Lit.int .u16 a1).wf = true) (w2 : (Lit.int .u16 a2).wf = true) :
  Calls Try.prog 9 #[.slice a0 len0 cap0, .int .u16 a1, .int .u16 a2] w fun e w' => e = .returned (.bool true) ∧ Below w.heap.size w w' := by
 obtain ⟨l0, rfl, hr0, hm0, hw0, hc0⟩ := ReadsInt.ofRowC w0
 obtain ⟨k, h⟩ := P l0 a1 a2 hm0 y0 hw0 w1 w2
 refine (flagstonelaw41_SequenceNarrows.calls k _ _ l0 a1 a2 true w (Kd.C_of_reads (d := (0 : Int)) (h1 := fun _ => rfl) hr0) hc0 h).mono ?_
 rintro e w' ⟨rfl, hd⟩
 exact ⟨rfl, hd⟩

end Go.Proofs.Ytdclcdaoidbgbaa.PA
