-- Written by a program of this seat's session (wip/tools/ownprint.py, over the kit's printer) out of the translation: functions and their contracts.
import Derived.Test.YtdclcdaoidbgbaaPA0
import Derived.Test.YtdclcdaoidbgbaaPA4
import Derived.Test.YtdclcdaoidbgbaaPA5
import Derived.Test.YtdclcdaoidbgbaaPA6
import Derived.Test.YtdclcdaoidbgbaaPA7
import Derived.Test.YtdclcdaoidbgbaaH4
namespace Go.Proofs.Ytdclcdaoidbgbaa.PA
open Go.RowKit Go.Proofs.YtdclcdaoidbgbaaW.PrintWords Go.Proofs.YtdclcdaoidbgbaaW.PrintLast Go.Proofs.YtdclcdaoidbgbaaW.PrintMore
attribute [local go_sem] max2_int min2_int max_two min_two max_three min_three max_four min_four   -- for this text's walks alone
set_option linter.unusedVariables false
set_option linter.unusedSimpArgs false

-- NOT PRINTED: function 4 (flagstonelaw41_SequenceLevel)

/-! ### flagstonelaw41_SequenceTells: function 5 -/
def flagstonelaw41_SequenceTells.l0 : Nat → Int → Int → List (S50) → Int → Option (Bool)
  | 0, _, _, _, _ => none
  | k + 1, x1, x2, x7, x8 => if x8 < 3 then ((some (([x1, Int.tmod (wrap64 (x2)) 1002, 900] : List Int) : List Int)).bind fun y338 => (if 0 ≤ x8 then (if x8 < (y338.length : Int) then ((sequence_Lower.f k x7 (rd y338 x8)).bind fun t342 => ((flagstoneref41_Lower.f k x7 (rd y338 x8)).bind fun t343 => (if t342 = t343 then ((sequence_Upper.f k x7 (rd y338 x8)).bind fun t344 => ((flagstoneref41_Upper.f k x7 (rd y338 x8)).bind fun t345 => (if t344 = t345 then (flagstonelaw41_SequenceTells.l0 k x1 x2 x7 (wrap64 (x8 + 1))) else (some false)))) else (some false)))) else (none)) else (none))) else (some true)
def flagstonelaw41_SequenceTells.f (k : Nat) (l0 : List Int) (a1 : Int) (a2 : Int) : Option (Bool) := (flagstonelaw41_awake.f k).bind fun t334 => (if t334 = true then (if (l0.length : Int) > 60 then (some true) else ((flagstonedata_Scores.f k l0).bind fun t335 => (flagstonelaw41_SequenceTells.l0 k a1 a2 t335 0))) else (some false))
theorem flagstonelaw41_SequenceTells.mono_l : ∀ k, (∀ y0 y1 y2 y3, LeO (flagstonelaw41_SequenceTells.l0 k y0 y1 y2 y3) (flagstonelaw41_SequenceTells.l0 (k + 1) y0 y1 y2 y3))
  | 0 => fun _ _ _ _ r h => by simp [flagstonelaw41_SequenceTells.l0] at h
  | k + 1 => by
    have ih0 := flagstonelaw41_SequenceTells.mono_l k
    · intro y0 y1 y2 y3
      unfold flagstonelaw41_SequenceTells.l0
      repeat' first
      | (with_reducible exact ih0 _ _ _ _)
      | (with_reducible exact flagstonedata_Scores.mono _ _)
      | (with_reducible exact flagstonelaw41_awake.mono _)
      | (with_reducible exact flagstoneref41_Lower.mono _ _ _)
      | (with_reducible exact flagstoneref41_Upper.mono _ _ _)
      | (with_reducible exact sequence_Lower.mono _ _ _)
      | (with_reducible exact sequence_Upper.mono _ _ _)
      | (with_reducible exact LeO.refl _)
      | (with_reducible exact LeO.none _)
      | (with_reducible refine LeO.ite ?_ ?_)
      | (with_reducible refine LeO.bind ?_ (fun _ => ?_))
      | exact ih0 _ _ _ _
      | exact flagstonedata_Scores.mono _ _
      | exact flagstonelaw41_awake.mono _
      | exact flagstoneref41_Lower.mono _ _ _
      | exact flagstoneref41_Upper.mono _ _ _
      | exact sequence_Lower.mono _ _ _
      | exact sequence_Upper.mono _ _ _
      | exact LeO.none _
      | refine LeO.ite ?_ ?_
      | refine LeO.bind ?_ (fun _ => ?_)
theorem flagstonelaw41_SequenceTells.mono : ∀ a0 a1 a2 k, LeO (flagstonelaw41_SequenceTells.f k a0 a1 a2) (flagstonelaw41_SequenceTells.f (k + 1) a0 a1 a2) := by
  intro a0 a1 a2 k
  have ih0 := flagstonelaw41_SequenceTells.mono_l k
  unfold flagstonelaw41_SequenceTells.f
  repeat' first
      | (with_reducible exact ih0 _ _ _ _)
      | (with_reducible exact flagstonedata_Scores.mono _ _)
      | (with_reducible exact flagstonelaw41_awake.mono _)
      | (with_reducible exact flagstoneref41_Lower.mono _ _ _)
      | (with_reducible exact flagstoneref41_Upper.mono _ _ _)
      | (with_reducible exact sequence_Lower.mono _ _ _)
      | (with_reducible exact sequence_Upper.mono _ _ _)
      | (with_reducible exact LeO.refl _)
      | (with_reducible exact LeO.none _)
      | (with_reducible refine LeO.ite ?_ ?_)
      | (with_reducible refine LeO.bind ?_ (fun _ => ?_))
      | exact ih0 _ _ _ _
      | exact flagstonedata_Scores.mono _ _
      | exact flagstonelaw41_awake.mono _
      | exact flagstoneref41_Lower.mono _ _ _
      | exact flagstoneref41_Upper.mono _ _ _
      | exact sequence_Lower.mono _ _ _
      | exact sequence_Upper.mono _ _ _
      | exact LeO.none _
      | refine LeO.ite ?_ ?_
      | refine LeO.bind ?_ (fun _ => ?_)
set_option maxHeartbeats 8000000 in
set_option maxRecDepth 100000 in
theorem flagstonelaw41_SequenceTells.calls (k : Nat) (A0 : Option Addr) (c0 : Nat) (l0 : List Int) (a1 : Int) (a2 : Int) (r : Bool) (w : World) (hr0 : Kd.C (Kd.int .u8) w A0 l0.length l0) (hc0 : l0.length ≤ c0) (h : flagstonelaw41_SequenceTells.f k l0 a1 a2 = some r) :
    Calls Try.prog 5 #[.slice A0 l0.length c0, .int .i64 a1, .int .u16 a2] w fun e w' => e = .returned (.bool r) ∧ Below w.heap.size w w' := by
  have HR0 := Aside0.mk hr0
  have HC0 := Aside0.mk hc0
  clear hr0 hc0
  have HB := Aside0.mk (Below.refl w.heap.size w)
  have H : ((flagstonelaw41_awake.f k).bind fun t334 => (if t334 = true then (if (l0.length : Int) > 60 then (some true) else ((flagstonedata_Scores.f k l0).bind fun t335 => (flagstonelaw41_SequenceTells.l0 k a1 a2 t335 0))) else (some false))) = some r := h
  clear h
  replace H := Option.bind_eq_some_iff.mp H
  obtain ⟨t334, A40, H⟩ := H
  replace H : (if t334 = true then (if (l0.length : Int) > 60 then (some true) else ((flagstonedata_Scores.f k l0).bind fun t335 => (flagstonelaw41_SequenceTells.l0 k a1 a2 t335 0))) else (some false)) = some r := H
  have A4 := Aside0.mk A40
  clear A40
  by_cases c5 : t334 = true
  · subst c5
    have H1 : (if (l0.length : Int) > 60 then (some true) else ((flagstonedata_Scores.f k l0).bind fun t335 => (flagstonelaw41_SequenceTells.l0 k a1 a2 t335 0))) = some r := by rw [if_pos rfl] at H; exact H
    clear H
    have H := H1
    clear H1
    by_cases c6 : (l0.length : Int) > 60
    · rw [if_pos c6] at H
      have c6b0 : decide (60 < (l0.length : Int)) = true := decide_eq_true c6
      have c6b1 : decide (60 < l0.length) = true := decide_eq_true (by omega)
      clear c6
      obtain rfl := Option.some.inj H
      go_enter Try.func5, Try.ntmps5
      go_wp2_with (first | ((with_reducible refine gate_callee (f := 10) rfl ?_); refine goesL_ (some 10) rfl rfl Try.func10 (by kernel_rfl) rfl #[] rfl (by (try simp only [List.map_toArray, List.map_cons, List.map_nil]); first | done | rfl | (simp only [List.length_drop, List.length_take]; rfl)) ?_; (with_reducible refine (flagstonelaw41_awake.calls k  true _ A4.out).mono ?_); rintro e w7 ⟨rfl, hb⟩; refine ⟨_, rfl, ?_⟩; have n0_ := Aside0.mk (below_step (by repeat (first | (with_reducible first | exact HB.out | apply below_alloc | apply pw_below_drewN | apply below_drew1) | exact HB.out)) hb); clear HB; have HB := n0_; clear n0_; (try clear hb); (try clear hb2); (try clear hk); (try clear hi)))
      go_ret
      exact ⟨by first | rfl | (simp [errW_none, errW_some] <;> rfl) | (simp [*, errW_none, errW_some] <;> rfl), by repeat (first | (with_reducible first | exact HB.out | apply below_alloc | apply pw_below_drewN | apply below_drew1) | exact HB.out)⟩
    · rw [if_neg c6] at H
      have c6b0 : decide (60 < (l0.length : Int)) = false := decide_eq_false c6
      have c6b1 : decide (60 < l0.length) = false := decide_eq_false (by omega)
      clear c6
      replace H := Option.bind_eq_some_iff.mp H
      obtain ⟨t335, A80, H⟩ := H
      replace H : (flagstonelaw41_SequenceTells.l0 k a1 a2 t335 0) = some r := H
      have A8 := Aside0.mk A80
      clear A80
      have H' := Aside0.mk H
      clear H
      go_enter Try.func5, Try.ntmps5
      go_wp2_with (first | ((with_reducible refine gate_callee (f := 10) rfl ?_); refine goesL_ (some 10) rfl rfl Try.func10 (by kernel_rfl) rfl #[] rfl (by (try simp only [List.map_toArray, List.map_cons, List.map_nil]); first | done | rfl | (simp only [List.length_drop, List.length_take]; rfl)) ?_; (with_reducible refine (flagstonelaw41_awake.calls k  true _ A4.out).mono ?_); rintro e w9 ⟨rfl, hb⟩; refine ⟨_, rfl, ?_⟩; have n0_ := Aside0.mk (below_step (by repeat (first | (with_reducible first | exact HB.out | apply below_alloc | apply pw_below_drewN | apply below_drew1) | exact HB.out)) hb); clear HB; have HB := n0_; clear n0_; (try clear hb); (try clear hb2); (try clear hk); (try clear hi)) | ((with_reducible refine gate_callee (f := 11) rfl ?_); refine goesL_ (some 16) rfl rfl Try.func11 (by kernel_rfl) rfl #[.slice A0 l0.length c0] rfl (by (try simp only [List.map_toArray, List.map_cons, List.map_nil]); first | done | rfl | (simp only [List.length_drop, List.length_take]; rfl)) ?_; (with_reducible refine (flagstonedata_Scores.calls k _ _ l0 t335 _ ?side1 ?side2 A8.out).mono ?_); (case side1 => repeat (first | exact (Kd.C_below HR0.out HB.out) | (with_reducible refine Kd.C_alloc ?_ _) | (with_reducible refine Kd.C_drewN ?_ _) | (with_reducible refine Kd.C_drew ?_))); (case side2 => exact HC0.out); rintro e w10 ⟨v336, rfl, ho0, hb⟩; refine ⟨_, rfl, ?_⟩; have n0_ := Aside0.mk (Kd.R_lower ho0 (below_size (by repeat (first | (with_reducible first | exact HB.out | apply below_alloc | apply pw_below_drewN | apply below_drew1) | exact HB.out)))); have n1_ := Aside0.mk (below_step (by repeat (first | (with_reducible first | exact HB.out | apply below_alloc | apply pw_below_drewN | apply below_drew1) | exact HB.out)) hb); clear HB; have HO337 := n0_; have HB := n1_; clear n0_ n1_; (try clear hb); (try clear hb2); (try clear hk); (try clear hi); (try clear ho0)))
      go_loopg [8] k (fun kq v8 w' => ∃ (x8_1 : Int), v8 = .int .i64 x8_1 ∧ Aside0 (flagstonelaw41_SequenceTells.l0 kq a1 a2 t335 x8_1 = some r) ∧ Aside0 (kq ≤ k) ∧ Aside0 (Kd.R k50 50 w' w.heap.size (fun _ => True) v336 t335) ∧ Aside0 (Below w.heap.size w w'))
      case atStart => exact ⟨(0), (by first | rfl | (simp; done) | (simp [*]; done) | exact congrArg (Value.int _) (by unfold wrap64; omega)), H', ⟨Nat.le_refl _⟩, ⟨by (with_reducible repeat (first | apply Kd.R_alloc | apply Kd.R_drewN | apply Kd.R_drew)); exact HO337.out⟩, ⟨by repeat (first | (with_reducible first | exact HB.out | apply below_alloc | apply pw_below_drewN | apply below_drew1) | exact HB.out)⟩⟩
      case round =>
        clear H'
        try clear c1
        try clear p2
        try clear c5
        try clear c6
        try clear c6b0
        try clear c6b1
        try clear p6
        try clear c10
        obtain ⟨x8_1, rfl, HA, HK1, HO_7, HB⟩ := hrel
        cases gk with
        | zero => exact absurd HA.out (by simp [flagstonelaw41_SequenceTells.l0])
        | succ k1 =>
          have H := HA.out
          clear HA
          simp only [flagstonelaw41_SequenceTells.l0] at H
          by_cases c11 : x8_1 < 3
          · rw [if_pos c11] at H
            have c11b0 : decide (x8_1 < 3) = true := decide_eq_true c11
            clear c11
            obtain ⟨y338, hy338⟩ : ∃ y_ : List Int, y_ = (([a1, Int.tmod (wrap64 (a2)) 1002, 900] : List Int)) := ⟨_, rfl⟩
            replace H : (if 0 ≤ x8_1 then (if x8_1 < (y338.length : Int) then ((sequence_Lower.f k1 t335 (rd y338 x8_1)).bind fun t342 => ((flagstoneref41_Lower.f k1 t335 (rd y338 x8_1)).bind fun t343 => (if t342 = t343 then ((sequence_Upper.f k1 t335 (rd y338 x8_1)).bind fun t344 => ((flagstoneref41_Upper.f k1 t335 (rd y338 x8_1)).bind fun t345 => (if t344 = t345 then (flagstonelaw41_SequenceTells.l0 k1 a1 a2 t335 (wrap64 (x8_1 + 1))) else (some false)))) else (some false)))) else (none)) else (none)) = some r := by first | (rw [hy338]; with_reducible exact H) | (have H2_ := (Option.bind_some _ _).symm.trans H; rw [hy338]; with_reducible exact H2_) | (have H2_ := (Option.bind_some _ _).symm.trans H; with_reducible exact H2_) | with_reducible exact H | (rw [hy338]; exact H) | exact H
            have Ny338 := Aside0.mk hy338
            clear hy338
            by_cases c12 : 0 ≤ x8_1
            · rw [if_pos c12] at H
              have c12b0 : decide (0 ≤ x8_1) = true := decide_eq_true c12
              clear c12
              by_cases c13 : x8_1 < (y338.length : Int)
              · rw [if_pos c13] at H
                have c13b0 : decide (x8_1 < (y338.length : Int)) = true := decide_eq_true c13
                clear c13
                replace H := Option.bind_eq_some_iff.mp H
                obtain ⟨t342, A140, H⟩ := H
                replace H : ((flagstoneref41_Lower.f k1 t335 (rd y338 x8_1)).bind fun t343 => (if t342 = t343 then ((sequence_Upper.f k1 t335 (rd y338 x8_1)).bind fun t344 => ((flagstoneref41_Upper.f k1 t335 (rd y338 x8_1)).bind fun t345 => (if t344 = t345 then (flagstonelaw41_SequenceTells.l0 k1 a1 a2 t335 (wrap64 (x8_1 + 1))) else (some false)))) else (some false))) = some r := H
                have A14 := Aside0.mk A140
                clear A140
                replace H := Option.bind_eq_some_iff.mp H
                obtain ⟨t343, A150, H⟩ := H
                replace H : (if t342 = t343 then ((sequence_Upper.f k1 t335 (rd y338 x8_1)).bind fun t344 => ((flagstoneref41_Upper.f k1 t335 (rd y338 x8_1)).bind fun t345 => (if t344 = t345 then (flagstonelaw41_SequenceTells.l0 k1 a1 a2 t335 (wrap64 (x8_1 + 1))) else (some false)))) else (some false)) = some r := H
                have A15 := Aside0.mk A150
                clear A150
                by_cases c16 : t342 = t343
                · rw [if_pos c16] at H
                  have c16b0 : (t342 == t343) = true := beq_iff_eq.mpr c16
                  have c16b1 : (t342 != t343) = false := bne_eq_false_iff_eq.mpr c16
                  clear c16
                  replace H := Option.bind_eq_some_iff.mp H
                  obtain ⟨t344, A170, H⟩ := H
                  replace H : ((flagstoneref41_Upper.f k1 t335 (rd y338 x8_1)).bind fun t345 => (if t344 = t345 then (flagstonelaw41_SequenceTells.l0 k1 a1 a2 t335 (wrap64 (x8_1 + 1))) else (some false))) = some r := H
                  have A17 := Aside0.mk A170
                  clear A170
                  replace H := Option.bind_eq_some_iff.mp H
                  obtain ⟨t345, A180, H⟩ := H
                  replace H : (if t344 = t345 then (flagstonelaw41_SequenceTells.l0 k1 a1 a2 t335 (wrap64 (x8_1 + 1))) else (some false)) = some r := H
                  have A18 := Aside0.mk A180
                  clear A180
                  by_cases c19 : t344 = t345
                  · rw [if_pos c19] at H
                    have c19b0 : (t344 == t345) = true := beq_iff_eq.mpr c19
                    have c19b1 : (t344 != t345) = false := bne_eq_false_iff_eq.mpr c19
                    clear c19
                    have H' := Aside0.mk H
                    clear H
                    go_wp2_with (first | ((with_reducible refine gate_dst (N := 25) rfl ?_); refine Kd.R_lit (Kd.int .i64) _ 3 ?hg (N := 25) ?hd (xs := ([a1, Int.tmod (wrap64 (a2)) 1002, 900] : List Int)) (inner := [.int .i64 a1, .int .i64 (Int.tmod (wrap64 (a2)) 1002), .int .i64 900]) (ok := fun _ => True) (okp := fun _ => True) ?hr ?hp (fun _ hk => hk) trivial (Below.refl _ _) (Nat.le_refl _) (by simp) ?_; (case hd => rfl); (case hg => rfl); (case hr => first | (go_simp; done) | (go_simp; rfl)); (case hp => exact (Reps.one (show Kd.M (Kd.int .i64) _ _ _ a1 [.int .i64 a1] from rfl) (Reps.one (show Kd.M (Kd.int .i64) _ _ _ (Int.tmod (wrap64 (a2)) 1002) [.int .i64 (Int.tmod (wrap64 (a2)) 1002)] from rfl) (Reps.one (show Kd.M (Kd.int .i64) _ _ _ 900 [.int .i64 900] from rfl) (Reps.none _ _))))); intro v339 w20 ho21 hb hg_ hnew_; clear hg_ hnew_; (first | rw [← Ny338.out] at ho21 | (simp only [Int.reduceToNat] at ho21; rw [← Ny338.out] at ho21)); have n0_ := Aside0.mk (Kd.R_below (by (with_reducible repeat (first | apply Kd.R_alloc | apply Kd.R_drewN | apply Kd.R_drew)); exact HO_7.out) hb); have n1_ := Aside0.mk (Kd.R_lower ho21 (below_size (by repeat (first | (with_reducible first | exact HB.out | apply below_alloc | apply pw_below_drewN | apply below_drew1) | exact HB.out)))); have n2_ := Aside0.mk (below_step (by repeat (first | (with_reducible first | exact HB.out | apply below_alloc | apply pw_below_drewN | apply below_drew1) | exact HB.out)) hb); clear HO_7; clear HB; have HO_7 := n0_; have HO340 := n1_; have HB := n2_; clear n0_ n1_ n2_; clear hb ho21; obtain ⟨Ao22, co22, eo22⟩ := Kd.R_slice HO340.out; subst eo22; have p341 : 0 ≤ (x8_1 : Int) := of_decide_eq_true (by first | (with_reducible assumption) | assumption); have q341 : x8_1 < (y338.length : Int) := of_decide_eq_true (by first | (with_reducible assumption) | assumption); obtain ⟨ad341, e341, hx341_0⟩ := Kd.at_int (Kd.R_reads' HO340.out).2.2 x8_1 p341 q341; cases e341; replace p341 := eq_true p341; replace q341 := eq_true q341; obtain ⟨Ao23, co23, eo23⟩ := Kd.R_slice HO_7.out; subst eo23) | ((with_reducible refine gate_callee (f := 18) rfl ?_); refine goesL_ (some 31) rfl rfl Try.func18 (by kernel_rfl) rfl #[.slice Ao23 t335.length co23, .int .i64 (rd y338 x8_1)] rfl (by (try simp only [List.map_toArray, List.map_cons, List.map_nil]); first | done | rfl | (simp only [List.length_drop, List.length_take]; rfl)) ?_; (with_reducible refine (sequence_Lower.calls k1 _ _ t335 (rd y338 x8_1) t342 _ ?side1 ?side2 A14.out).mono ?_); (case side1 => repeat (first | exact (Kd.R_reads' HO_7.out).2.2 | (with_reducible refine Kd.C_alloc ?_ _) | (with_reducible refine Kd.C_drewN ?_ _) | (with_reducible refine Kd.C_drew ?_))); (case side2 => exact (Kd.R_reads' HO_7.out).2.1); rintro e w24 ⟨rfl, hb⟩; refine ⟨_, rfl, ?_⟩; have n0_ := Aside0.mk (Kd.R_below (by (with_reducible repeat (first | apply Kd.R_alloc | apply Kd.R_drewN | apply Kd.R_drew)); exact HO_7.out) hb); have n1_ := Aside0.mk (Kd.R_below (by (with_reducible repeat (first | apply Kd.R_alloc | apply Kd.R_drewN | apply Kd.R_drew)); exact HO340.out) hb); have n2_ := Aside0.mk (below_step (by repeat (first | (with_reducible first | exact HB.out | apply below_alloc | apply pw_below_drewN | apply below_drew1) | exact HB.out)) hb); clear HO_7; clear HO340; clear HB; have HO_7 := n0_; have HO340 := n1_; have HB := n2_; clear n0_ n1_ n2_; (try clear hb); (try clear hb2); (try clear hk); (try clear hi)) | ((with_reducible refine gate_callee (f := 19) rfl ?_); refine goesL_ (some 34) rfl rfl Try.func19 (by kernel_rfl) rfl #[.slice Ao23 t335.length co23, .int .i64 (rd y338 x8_1)] rfl (by (try simp only [List.map_toArray, List.map_cons, List.map_nil]); first | done | rfl | (simp only [List.length_drop, List.length_take]; rfl)) ?_; (with_reducible refine (flagstoneref41_Lower.calls k1 _ _ t335 (rd y338 x8_1) t343 _ ?side1 ?side2 A15.out).mono ?_); (case side1 => repeat (first | exact (Kd.R_reads' HO_7.out).2.2 | (with_reducible refine Kd.C_alloc ?_ _) | (with_reducible refine Kd.C_drewN ?_ _) | (with_reducible refine Kd.C_drew ?_))); (case side2 => exact (Kd.R_reads' HO_7.out).2.1); rintro e w25 ⟨rfl, hb⟩; refine ⟨_, rfl, ?_⟩; have n0_ := Aside0.mk (Kd.R_below (by (with_reducible repeat (first | apply Kd.R_alloc | apply Kd.R_drewN | apply Kd.R_drew)); exact HO_7.out) hb); have n1_ := Aside0.mk (Kd.R_below (by (with_reducible repeat (first | apply Kd.R_alloc | apply Kd.R_drewN | apply Kd.R_drew)); exact HO340.out) hb); have n2_ := Aside0.mk (below_step (by repeat (first | (with_reducible first | exact HB.out | apply below_alloc | apply pw_below_drewN | apply below_drew1) | exact HB.out)) hb); clear HO_7; clear HO340; clear HB; have HO_7 := n0_; have HO340 := n1_; have HB := n2_; clear n0_ n1_ n2_; (try clear hb); (try clear hb2); (try clear hk); (try clear hi)) | (go_at_call 20; (with_reducible refine (sequence_Upper.calls k1 _ _ t335 (rd y338 x8_1) t344 _ ?side1 ?side2 A17.out).mono ?_); (case side1 => repeat (first | exact (Kd.R_reads' HO_7.out).2.2 | (with_reducible refine Kd.C_alloc ?_ _) | (with_reducible refine Kd.C_drewN ?_ _) | (with_reducible refine Kd.C_drew ?_))); (case side2 => exact (Kd.R_reads' HO_7.out).2.1); rintro e w26 ⟨rfl, hb⟩; have n0_ := Aside0.mk (Kd.R_below (by (with_reducible repeat (first | apply Kd.R_alloc | apply Kd.R_drewN | apply Kd.R_drew)); exact HO_7.out) hb); have n1_ := Aside0.mk (Kd.R_below (by (with_reducible repeat (first | apply Kd.R_alloc | apply Kd.R_drewN | apply Kd.R_drew)); exact HO340.out) hb); have n2_ := Aside0.mk (below_step (by repeat (first | (with_reducible first | exact HB.out | apply below_alloc | apply pw_below_drewN | apply below_drew1) | exact HB.out)) hb); clear HO_7; clear HO340; clear HB; have HO_7 := n0_; have HO340 := n1_; have HB := n2_; clear n0_ n1_ n2_; (try clear hb); (try clear hb2); (try clear hk); (try clear hi)) | (go_at_call 21; (with_reducible refine (flagstoneref41_Upper.calls k1 _ _ t335 (rd y338 x8_1) t345 _ ?side1 ?side2 A18.out).mono ?_); (case side1 => repeat (first | exact (Kd.R_reads' HO_7.out).2.2 | (with_reducible refine Kd.C_alloc ?_ _) | (with_reducible refine Kd.C_drewN ?_ _) | (with_reducible refine Kd.C_drew ?_))); (case side2 => exact (Kd.R_reads' HO_7.out).2.1); rintro e w27 ⟨rfl, hb⟩; have n0_ := Aside0.mk (Kd.R_below (by (with_reducible repeat (first | apply Kd.R_alloc | apply Kd.R_drewN | apply Kd.R_drew)); exact HO_7.out) hb); have n1_ := Aside0.mk (Kd.R_below (by (with_reducible repeat (first | apply Kd.R_alloc | apply Kd.R_drewN | apply Kd.R_drew)); exact HO340.out) hb); have n2_ := Aside0.mk (below_step (by repeat (first | (with_reducible first | exact HB.out | apply below_alloc | apply pw_below_drewN | apply below_drew1) | exact HB.out)) hb); clear HO_7; clear HO340; clear HB; have HO_7 := n0_; have HO340 := n1_; have HB := n2_; clear n0_ n1_ n2_; (try clear hb); (try clear hb2); (try clear hk); (try clear hi)))
                    go_roundg k1
                    case measure => have := HK1.out; omega
                    case rel => exact ⟨(wrap64 (x8_1 + 1)), (by first | rfl | (simp; done) | (simp [*]; done) | exact congrArg (Value.int _) (by unfold wrap64; omega)), H', ⟨by have := HK1.out; omega⟩, ⟨by (with_reducible repeat (first | apply Kd.R_alloc | apply Kd.R_drewN | apply Kd.R_drew)); exact HO_7.out⟩, ⟨by repeat (first | (with_reducible first | exact HB.out | apply below_alloc | apply pw_below_drewN | apply below_drew1) | exact HB.out)⟩⟩
                  · rw [if_neg c19] at H
                    have c19b0 : (t344 == t345) = false := beq_eq_false_iff_ne.mpr c19
                    have c19b1 : (t344 != t345) = true := bne_iff_ne.mpr c19
                    obtain rfl := Option.some.inj H
                    go_wp2_with (first | ((with_reducible refine gate_dst (N := 25) rfl ?_); refine Kd.R_lit (Kd.int .i64) _ 3 ?hg (N := 25) ?hd (xs := ([a1, Int.tmod (wrap64 (a2)) 1002, 900] : List Int)) (inner := [.int .i64 a1, .int .i64 (Int.tmod (wrap64 (a2)) 1002), .int .i64 900]) (ok := fun _ => True) (okp := fun _ => True) ?hr ?hp (fun _ hk => hk) trivial (Below.refl _ _) (Nat.le_refl _) (by simp) ?_; (case hd => rfl); (case hg => rfl); (case hr => first | (go_simp; done) | (go_simp; rfl)); (case hp => exact (Reps.one (show Kd.M (Kd.int .i64) _ _ _ a1 [.int .i64 a1] from rfl) (Reps.one (show Kd.M (Kd.int .i64) _ _ _ (Int.tmod (wrap64 (a2)) 1002) [.int .i64 (Int.tmod (wrap64 (a2)) 1002)] from rfl) (Reps.one (show Kd.M (Kd.int .i64) _ _ _ 900 [.int .i64 900] from rfl) (Reps.none _ _))))); intro v339 w28 ho29 hb hg_ hnew_; clear hg_ hnew_; (first | rw [← Ny338.out] at ho29 | (simp only [Int.reduceToNat] at ho29; rw [← Ny338.out] at ho29)); have n0_ := Aside0.mk (Kd.R_below (by (with_reducible repeat (first | apply Kd.R_alloc | apply Kd.R_drewN | apply Kd.R_drew)); exact HO_7.out) hb); have n1_ := Aside0.mk (Kd.R_lower ho29 (below_size (by repeat (first | (with_reducible first | exact HB.out | apply below_alloc | apply pw_below_drewN | apply below_drew1) | exact HB.out)))); have n2_ := Aside0.mk (below_step (by repeat (first | (with_reducible first | exact HB.out | apply below_alloc | apply pw_below_drewN | apply below_drew1) | exact HB.out)) hb); clear HO_7; clear HB; have HO_7 := n0_; have HO340 := n1_; have HB := n2_; clear n0_ n1_ n2_; clear hb ho29; obtain ⟨Ao30, co30, eo30⟩ := Kd.R_slice HO340.out; subst eo30; have p341 : 0 ≤ (x8_1 : Int) := of_decide_eq_true (by first | (with_reducible assumption) | assumption); have q341 : x8_1 < (y338.length : Int) := of_decide_eq_true (by first | (with_reducible assumption) | assumption); obtain ⟨ad341, e341, hx341_0⟩ := Kd.at_int (Kd.R_reads' HO340.out).2.2 x8_1 p341 q341; cases e341; replace p341 := eq_true p341; replace q341 := eq_true q341; obtain ⟨Ao31, co31, eo31⟩ := Kd.R_slice HO_7.out; subst eo31) | ((with_reducible refine gate_callee (f := 18) rfl ?_); refine goesL_ (some 31) rfl rfl Try.func18 (by kernel_rfl) rfl #[.slice Ao31 t335.length co31, .int .i64 (rd y338 x8_1)] rfl (by (try simp only [List.map_toArray, List.map_cons, List.map_nil]); first | done | rfl | (simp only [List.length_drop, List.length_take]; rfl)) ?_; (with_reducible refine (sequence_Lower.calls k1 _ _ t335 (rd y338 x8_1) t342 _ ?side1 ?side2 A14.out).mono ?_); (case side1 => repeat (first | exact (Kd.R_reads' HO_7.out).2.2 | (with_reducible refine Kd.C_alloc ?_ _) | (with_reducible refine Kd.C_drewN ?_ _) | (with_reducible refine Kd.C_drew ?_))); (case side2 => exact (Kd.R_reads' HO_7.out).2.1); rintro e w32 ⟨rfl, hb⟩; refine ⟨_, rfl, ?_⟩; have n0_ := Aside0.mk (Kd.R_below (by (with_reducible repeat (first | apply Kd.R_alloc | apply Kd.R_drewN | apply Kd.R_drew)); exact HO_7.out) hb); have n1_ := Aside0.mk (Kd.R_below (by (with_reducible repeat (first | apply Kd.R_alloc | apply Kd.R_drewN | apply Kd.R_drew)); exact HO340.out) hb); have n2_ := Aside0.mk (below_step (by repeat (first | (with_reducible first | exact HB.out | apply below_alloc | apply pw_below_drewN | apply below_drew1) | exact HB.out)) hb); clear HO_7; clear HO340; clear HB; have HO_7 := n0_; have HO340 := n1_; have HB := n2_; clear n0_ n1_ n2_; (try clear hb); (try clear hb2); (try clear hk); (try clear hi)) | ((with_reducible refine gate_callee (f := 19) rfl ?_); refine goesL_ (some 34) rfl rfl Try.func19 (by kernel_rfl) rfl #[.slice Ao31 t335.length co31, .int .i64 (rd y338 x8_1)] rfl (by (try simp only [List.map_toArray, List.map_cons, List.map_nil]); first | done | rfl | (simp only [List.length_drop, List.length_take]; rfl)) ?_; (with_reducible refine (flagstoneref41_Lower.calls k1 _ _ t335 (rd y338 x8_1) t343 _ ?side1 ?side2 A15.out).mono ?_); (case side1 => repeat (first | exact (Kd.R_reads' HO_7.out).2.2 | (with_reducible refine Kd.C_alloc ?_ _) | (with_reducible refine Kd.C_drewN ?_ _) | (with_reducible refine Kd.C_drew ?_))); (case side2 => exact (Kd.R_reads' HO_7.out).2.1); rintro e w33 ⟨rfl, hb⟩; refine ⟨_, rfl, ?_⟩; have n0_ := Aside0.mk (Kd.R_below (by (with_reducible repeat (first | apply Kd.R_alloc | apply Kd.R_drewN | apply Kd.R_drew)); exact HO_7.out) hb); have n1_ := Aside0.mk (Kd.R_below (by (with_reducible repeat (first | apply Kd.R_alloc | apply Kd.R_drewN | apply Kd.R_drew)); exact HO340.out) hb); have n2_ := Aside0.mk (below_step (by repeat (first | (with_reducible first | exact HB.out | apply below_alloc | apply pw_below_drewN | apply below_drew1) | exact HB.out)) hb); clear HO_7; clear HO340; clear HB; have HO_7 := n0_; have HO340 := n1_; have HB := n2_; clear n0_ n1_ n2_; (try clear hb); (try clear hb2); (try clear hk); (try clear hi)) | (go_at_call 20; (with_reducible refine (sequence_Upper.calls k1 _ _ t335 (rd y338 x8_1) t344 _ ?side1 ?side2 A17.out).mono ?_); (case side1 => repeat (first | exact (Kd.R_reads' HO_7.out).2.2 | (with_reducible refine Kd.C_alloc ?_ _) | (with_reducible refine Kd.C_drewN ?_ _) | (with_reducible refine Kd.C_drew ?_))); (case side2 => exact (Kd.R_reads' HO_7.out).2.1); rintro e w34 ⟨rfl, hb⟩; have n0_ := Aside0.mk (Kd.R_below (by (with_reducible repeat (first | apply Kd.R_alloc | apply Kd.R_drewN | apply Kd.R_drew)); exact HO_7.out) hb); have n1_ := Aside0.mk (Kd.R_below (by (with_reducible repeat (first | apply Kd.R_alloc | apply Kd.R_drewN | apply Kd.R_drew)); exact HO340.out) hb); have n2_ := Aside0.mk (below_step (by repeat (first | (with_reducible first | exact HB.out | apply below_alloc | apply pw_below_drewN | apply below_drew1) | exact HB.out)) hb); clear HO_7; clear HO340; clear HB; have HO_7 := n0_; have HO340 := n1_; have HB := n2_; clear n0_ n1_ n2_; (try clear hb); (try clear hb2); (try clear hk); (try clear hi)) | (go_at_call 21; (with_reducible refine (flagstoneref41_Upper.calls k1 _ _ t335 (rd y338 x8_1) t345 _ ?side1 ?side2 A18.out).mono ?_); (case side1 => repeat (first | exact (Kd.R_reads' HO_7.out).2.2 | (with_reducible refine Kd.C_alloc ?_ _) | (with_reducible refine Kd.C_drewN ?_ _) | (with_reducible refine Kd.C_drew ?_))); (case side2 => exact (Kd.R_reads' HO_7.out).2.1); rintro e w35 ⟨rfl, hb⟩; have n0_ := Aside0.mk (Kd.R_below (by (with_reducible repeat (first | apply Kd.R_alloc | apply Kd.R_drewN | apply Kd.R_drew)); exact HO_7.out) hb); have n1_ := Aside0.mk (Kd.R_below (by (with_reducible repeat (first | apply Kd.R_alloc | apply Kd.R_drewN | apply Kd.R_drew)); exact HO340.out) hb); have n2_ := Aside0.mk (below_step (by repeat (first | (with_reducible first | exact HB.out | apply below_alloc | apply pw_below_drewN | apply below_drew1) | exact HB.out)) hb); clear HO_7; clear HO340; clear HB; have HO_7 := n0_; have HO340 := n1_; have HB := n2_; clear n0_ n1_ n2_; (try clear hb); (try clear hb2); (try clear hk); (try clear hi)))
                    go_ret
                    exact ⟨by first | rfl | (simp [errW_none, errW_some] <;> rfl) | (simp [*, errW_none, errW_some] <;> rfl), by repeat (first | (with_reducible first | exact HB.out | apply below_alloc | apply pw_below_drewN | apply below_drew1) | exact HB.out)⟩
                · rw [if_neg c16] at H
                  have c16b0 : (t342 == t343) = false := beq_eq_false_iff_ne.mpr c16
                  have c16b1 : (t342 != t343) = true := bne_iff_ne.mpr c16
                  obtain rfl := Option.some.inj H
                  go_wp2_with (first | ((with_reducible refine gate_dst (N := 25) rfl ?_); refine Kd.R_lit (Kd.int .i64) _ 3 ?hg (N := 25) ?hd (xs := ([a1, Int.tmod (wrap64 (a2)) 1002, 900] : List Int)) (inner := [.int .i64 a1, .int .i64 (Int.tmod (wrap64 (a2)) 1002), .int .i64 900]) (ok := fun _ => True) (okp := fun _ => True) ?hr ?hp (fun _ hk => hk) trivial (Below.refl _ _) (Nat.le_refl _) (by simp) ?_; (case hd => rfl); (case hg => rfl); (case hr => first | (go_simp; done) | (go_simp; rfl)); (case hp => exact (Reps.one (show Kd.M (Kd.int .i64) _ _ _ a1 [.int .i64 a1] from rfl) (Reps.one (show Kd.M (Kd.int .i64) _ _ _ (Int.tmod (wrap64 (a2)) 1002) [.int .i64 (Int.tmod (wrap64 (a2)) 1002)] from rfl) (Reps.one (show Kd.M (Kd.int .i64) _ _ _ 900 [.int .i64 900] from rfl) (Reps.none _ _))))); intro v339 w36 ho37 hb hg_ hnew_; clear hg_ hnew_; (first | rw [← Ny338.out] at ho37 | (simp only [Int.reduceToNat] at ho37; rw [← Ny338.out] at ho37)); have n0_ := Aside0.mk (Kd.R_below (by (with_reducible repeat (first | apply Kd.R_alloc | apply Kd.R_drewN | apply Kd.R_drew)); exact HO_7.out) hb); have n1_ := Aside0.mk (Kd.R_lower ho37 (below_size (by repeat (first | (with_reducible first | exact HB.out | apply below_alloc | apply pw_below_drewN | apply below_drew1) | exact HB.out)))); have n2_ := Aside0.mk (below_step (by repeat (first | (with_reducible first | exact HB.out | apply below_alloc | apply pw_below_drewN | apply below_drew1) | exact HB.out)) hb); clear HO_7; clear HB; have HO_7 := n0_; have HO340 := n1_; have HB := n2_; clear n0_ n1_ n2_; clear hb ho37; obtain ⟨Ao38, co38, eo38⟩ := Kd.R_slice HO340.out; subst eo38; have p341 : 0 ≤ (x8_1 : Int) := of_decide_eq_true (by first | (with_reducible assumption) | assumption); have q341 : x8_1 < (y338.length : Int) := of_decide_eq_true (by first | (with_reducible assumption) | assumption); obtain ⟨ad341, e341, hx341_0⟩ := Kd.at_int (Kd.R_reads' HO340.out).2.2 x8_1 p341 q341; cases e341; replace p341 := eq_true p341; replace q341 := eq_true q341; obtain ⟨Ao39, co39, eo39⟩ := Kd.R_slice HO_7.out; subst eo39) | ((with_reducible refine gate_callee (f := 18) rfl ?_); refine goesL_ (some 31) rfl rfl Try.func18 (by kernel_rfl) rfl #[.slice Ao39 t335.length co39, .int .i64 (rd y338 x8_1)] rfl (by (try simp only [List.map_toArray, List.map_cons, List.map_nil]); first | done | rfl | (simp only [List.length_drop, List.length_take]; rfl)) ?_; (with_reducible refine (sequence_Lower.calls k1 _ _ t335 (rd y338 x8_1) t342 _ ?side1 ?side2 A14.out).mono ?_); (case side1 => repeat (first | exact (Kd.R_reads' HO_7.out).2.2 | (with_reducible refine Kd.C_alloc ?_ _) | (with_reducible refine Kd.C_drewN ?_ _) | (with_reducible refine Kd.C_drew ?_))); (case side2 => exact (Kd.R_reads' HO_7.out).2.1); rintro e w40 ⟨rfl, hb⟩; refine ⟨_, rfl, ?_⟩; have n0_ := Aside0.mk (Kd.R_below (by (with_reducible repeat (first | apply Kd.R_alloc | apply Kd.R_drewN | apply Kd.R_drew)); exact HO_7.out) hb); have n1_ := Aside0.mk (Kd.R_below (by (with_reducible repeat (first | apply Kd.R_alloc | apply Kd.R_drewN | apply Kd.R_drew)); exact HO340.out) hb); have n2_ := Aside0.mk (below_step (by repeat (first | (with_reducible first | exact HB.out | apply below_alloc | apply pw_below_drewN | apply below_drew1) | exact HB.out)) hb); clear HO_7; clear HO340; clear HB; have HO_7 := n0_; have HO340 := n1_; have HB := n2_; clear n0_ n1_ n2_; (try clear hb); (try clear hb2); (try clear hk); (try clear hi)) | ((with_reducible refine gate_callee (f := 19) rfl ?_); refine goesL_ (some 34) rfl rfl Try.func19 (by kernel_rfl) rfl #[.slice Ao39 t335.length co39, .int .i64 (rd y338 x8_1)] rfl (by (try simp only [List.map_toArray, List.map_cons, List.map_nil]); first | done | rfl | (simp only [List.length_drop, List.length_take]; rfl)) ?_; (with_reducible refine (flagstoneref41_Lower.calls k1 _ _ t335 (rd y338 x8_1) t343 _ ?side1 ?side2 A15.out).mono ?_); (case side1 => repeat (first | exact (Kd.R_reads' HO_7.out).2.2 | (with_reducible refine Kd.C_alloc ?_ _) | (with_reducible refine Kd.C_drewN ?_ _) | (with_reducible refine Kd.C_drew ?_))); (case side2 => exact (Kd.R_reads' HO_7.out).2.1); rintro e w41 ⟨rfl, hb⟩; refine ⟨_, rfl, ?_⟩; have n0_ := Aside0.mk (Kd.R_below (by (with_reducible repeat (first | apply Kd.R_alloc | apply Kd.R_drewN | apply Kd.R_drew)); exact HO_7.out) hb); have n1_ := Aside0.mk (Kd.R_below (by (with_reducible repeat (first | apply Kd.R_alloc | apply Kd.R_drewN | apply Kd.R_drew)); exact HO340.out) hb); have n2_ := Aside0.mk (below_step (by repeat (first | (with_reducible first | exact HB.out | apply below_alloc | apply pw_below_drewN | apply below_drew1) | exact HB.out)) hb); clear HO_7; clear HO340; clear HB; have HO_7 := n0_; have HO340 := n1_; have HB := n2_; clear n0_ n1_ n2_; (try clear hb); (try clear hb2); (try clear hk); (try clear hi)))
                  go_ret
                  exact ⟨by first | rfl | (simp [errW_none, errW_some] <;> rfl) | (simp [*, errW_none, errW_some] <;> rfl), by repeat (first | (with_reducible first | exact HB.out | apply below_alloc | apply pw_below_drewN | apply below_drew1) | exact HB.out)⟩
              · rw [if_neg c13] at H
                exact absurd H (by simp)
            · rw [if_neg c12] at H
              exact absurd H (by simp)
          · rw [if_neg c11] at H
            have c11b0 : decide (x8_1 < 3) = false := decide_eq_false c11
            clear c11
            obtain rfl := Option.some.inj H
            go_wp2
            go_ret
            exact ⟨by first | rfl | (simp [errW_none, errW_some] <;> rfl) | (simp [*, errW_none, errW_some] <;> rfl), by repeat (first | (with_reducible first | exact HB.out | apply below_alloc | apply pw_below_drewN | apply below_drew1) | exact HB.out)⟩
  · replace c5 := Bool.eq_false_iff.mpr c5
    subst c5
    have H1 : (some false) = some r := by rw [if_neg (show ¬ (false = true) by decide)] at H; exact H
    clear H
    have H := H1
    clear H1
    obtain rfl := Option.some.inj H
    go_enter Try.func5, Try.ntmps5
    go_wp2_with (first | ((with_reducible refine gate_callee (f := 10) rfl ?_); refine goesL_ (some 10) rfl rfl Try.func10 (by kernel_rfl) rfl #[] rfl (by (try simp only [List.map_toArray, List.map_cons, List.map_nil]); first | done | rfl | (simp only [List.length_drop, List.length_take]; rfl)) ?_; (with_reducible refine (flagstonelaw41_awake.calls k  false _ A4.out).mono ?_); rintro e w42 ⟨rfl, hb⟩; refine ⟨_, rfl, ?_⟩; have n0_ := Aside0.mk (below_step (by repeat (first | (with_reducible first | exact HB.out | apply below_alloc | apply pw_below_drewN | apply below_drew1) | exact HB.out)) hb); clear HB; have HB := n0_; clear n0_; (try clear hb); (try clear hb2); (try clear hk); (try clear hi)))
    go_ret
    exact ⟨by first | rfl | (simp [errW_none, errW_some] <;> rfl) | (simp [*, errW_none, errW_some] <;> rfl), by repeat (first | (with_reducible first | exact HB.out | apply below_alloc | apply pw_below_drewN | apply below_drew1) | exact HB.out)⟩

/-- THE ONE PURE STATEMENT of flagstonelaw41_SequenceTells: yours. -/
def flagstonelaw41_SequenceTells.Pure : Prop := ∀ (l0 : List Int) (a1 : Int) (a2 : Int), l0.length ≤ maxLen → l0.length * 1 ≤ 140737488351232 → (∀ x ∈ l0, (Lit.int .u8 x).wf = true) → (Lit.int .i64 a1).wf = true → (Lit.int .u16 a2).wf = true → ∃ k, flagstonelaw41_SequenceTells.f k l0 a1 a2 = some true
theorem flagstonelaw41_SequenceTells.walk (P : flagstonelaw41_SequenceTells.Pure) (a0 : Option Addr) (len0 cap0 : Nat) (z0 : List Int) (a1 : Int) (a2 : Int) (w : World) (w0 : (a0 = none ∧ len0 = 0 ∧ cap0 = 0 ∧ z0 = []) ∨ ∃ x, a0 = some x ∧ len0 ≤ cap0 ∧ cap0 ≤ maxLen ∧ z0.length = cap0 ∧ (∀ i, i < z0.length → w.cell? (x.add i) = some (.int .u8 (z0.getD i 0))) ∧ ∀ n ∈ z0, (Lit.int .u8 n).wf = true) (y0 : len0 * 1 ≤ 140737488351232) (w1 : (Lit.int .i64 a1).wf = true) (w2 : (Lit.int .u16 a2).wf = true) :
    Calls Try.prog 5 #[.slice a0 len0 cap0, .int .i64 a1, .int .u16 a2] w fun e w' => e = .returned (.bool true) ∧ Below w.heap.size w w' := by
  obtain ⟨l0, rfl, hr0, hm0, hw0, hc0⟩ := ReadsInt.ofRowC w0
  obtain ⟨k, h⟩ := P l0 a1 a2 hm0 y0 hw0 w1 w2
  refine (flagstonelaw41_SequenceTells.calls k _ _ l0 a1 a2 true w (Kd.C_of_reads (d := (0 : Int)) (h1 := fun _ => rfl) hr0) hc0 h).mono ?_
  rintro e w' ⟨rfl, hd⟩
  exact ⟨rfl, hd⟩

/-! ### flagstonelaw41_SequenceExcludes: function 6 -/
mutual
def flagstonelaw41_SequenceExcludes.j0 : Nat → List Int → Int → List Int → Bool → Option (Bool)
  | 0, _, _, _, _ => none
  | k + 1, x0, x1, x2, x24 => if x24 = true then (some true) else ((flagstonedata_Scores.f k x0).bind fun t347 => ((sequence_Lower.f k t347 (wrap64 (1 + (Int.tmod (wrap64 (x1)) 999)))).bind fun t350 => ((sequence_Upper.f k t347 (wrap64 (1 + (Int.tmod (wrap64 (x1)) 999)))).bind fun t351 => (flagstonelaw41_SequenceExcludes.l0 k x2 t347 (wrap64 (1 + (Int.tmod (wrap64 (x1)) 999))) t350 t351 0))))
def flagstonelaw41_SequenceExcludes.l0 : Nat → List Int → List (S50) → Int → Int → Int → Int → Option (Bool)
  | 0, _, _, _, _, _, _ => none
  | k + 1, x2, x7, x8, x9, x10, x11 => if x11 < (wrap64 ((x2.length : Int) + 4)) then ((some (([wrap64 (x9 - 1), x9, x10, wrap64 (x10 + 1)] : List Int) : List Int)).bind fun y352 => (if 0 ≤ (Int.tmod x11 4) then (if (Int.tmod x11 4) < (y352.length : Int) then (if x11 ≥ 4 then (if 0 ≤ (wrap64 (x11 - 4)) then (if (wrap64 (x11 - 4)) < (x2.length : Int) then (flagstonelaw41_SequenceExcludes.j2 k x2 x7 x8 x9 x10 x11 (Int.tmod (wrap64 (rd x2 (wrap64 (x11 - 4)))) 1001)) else (none)) else (none)) else (flagstonelaw41_SequenceExcludes.j2 k x2 x7 x8 x9 x10 x11 (rd y352 (Int.tmod x11 4)))) else (none)) else (none))) else (some true)
def flagstonelaw41_SequenceExcludes.j2 : Nat → List Int → List (S50) → Int → Int → Int → Int → Int → Option (Bool)
  | 0, _, _, _, _, _, _, _ => none
  | k + 1, x2, x7, x8, x9, x10, x11, x12 => if x12 < (-1000) then (flagstonelaw41_SequenceExcludes.j3 k x2 x7 x8 x9 x10 x11 x12 true) else (flagstonelaw41_SequenceExcludes.j3 k x2 x7 x8 x9 x10 x11 x12 (decide (x12 > 1000)))
def flagstonelaw41_SequenceExcludes.j3 : Nat → List Int → List (S50) → Int → Int → Int → Int → Int → Bool → Option (Bool)
  | 0, _, _, _, _, _, _, _, _ => none
  | k + 1, x2, x7, x8, x9, x10, x11, x12, x69 => if x69 = true then (flagstonelaw41_SequenceExcludes.l0 k x2 x7 x8 x9 x10 (wrap64 (x11 + 1))) else ((flagstoneref40_Path.f k x7 x12 true).bind fun t357 => ((flagstoneref40_Threshold.f k x8 2).bind fun t360 => ((flagstoneref40_First.f k t357 t360).bind fun t361 => ((flagstoneref40_Path.f k x7 x12 false).bind fun t362 => ((flagstoneref40_Threshold.f k x8 2).bind fun t365 => ((flagstoneref40_First.f k t362 t365).bind fun t366 => (if ((decide (t361 > 0)) != (decide (x12 < x9))) = true then (some false) else (if ((decide (t366 > 0)) != (decide (x12 > x10))) = true then (some false) else (flagstonelaw41_SequenceExcludes.l0 k x2 x7 x8 x9 x10 (wrap64 (x11 + 1)))))))))))
end
def flagstonelaw41_SequenceExcludes.f (k : Nat) (l0 : List Int) (a1 : Int) (l2 : List Int) : Option (Bool) := (flagstonelaw41_awake.f k).bind fun t346 => (if t346 = true then (if (l0.length : Int) > 60 then (flagstonelaw41_SequenceExcludes.j0 k l0 a1 l2 true) else (flagstonelaw41_SequenceExcludes.j0 k l0 a1 l2 (decide ((l2.length : Int) > 20)))) else (some false))
theorem flagstonelaw41_SequenceExcludes.mono_l : ∀ k, (∀ y0 y1 y2 y3, LeO (flagstonelaw41_SequenceExcludes.j0 k y0 y1 y2 y3) (flagstonelaw41_SequenceExcludes.j0 (k + 1) y0 y1 y2 y3)) ∧ (∀ y0 y1 y2 y3 y4 y5, LeO (flagstonelaw41_SequenceExcludes.l0 k y0 y1 y2 y3 y4 y5) (flagstonelaw41_SequenceExcludes.l0 (k + 1) y0 y1 y2 y3 y4 y5)) ∧ (∀ y0 y1 y2 y3 y4 y5 y6, LeO (flagstonelaw41_SequenceExcludes.j2 k y0 y1 y2 y3 y4 y5 y6) (flagstonelaw41_SequenceExcludes.j2 (k + 1) y0 y1 y2 y3 y4 y5 y6)) ∧ (∀ y0 y1 y2 y3 y4 y5 y6 y7, LeO (flagstonelaw41_SequenceExcludes.j3 k y0 y1 y2 y3 y4 y5 y6 y7) (flagstonelaw41_SequenceExcludes.j3 (k + 1) y0 y1 y2 y3 y4 y5 y6 y7))
  | 0 => ⟨fun _ _ _ _ r h => by simp [flagstonelaw41_SequenceExcludes.j0] at h, fun _ _ _ _ _ _ r h => by simp [flagstonelaw41_SequenceExcludes.l0] at h, fun _ _ _ _ _ _ _ r h => by simp [flagstonelaw41_SequenceExcludes.j2] at h, fun _ _ _ _ _ _ _ _ r h => by simp [flagstonelaw41_SequenceExcludes.j3] at h⟩
  | k + 1 => by
    obtain ⟨ih0, ih1, ih2, ih3⟩ := flagstonelaw41_SequenceExcludes.mono_l k
    refine ⟨?_, ?_, ?_, ?_⟩
    · intro y0 y1 y2 y3
      unfold flagstonelaw41_SequenceExcludes.j0
      repeat' first
      | (with_reducible exact ih0 _ _ _ _)
      | (with_reducible exact ih1 _ _ _ _ _ _)
      | (with_reducible exact ih2 _ _ _ _ _ _ _)
      | (with_reducible exact ih3 _ _ _ _ _ _ _ _)
      | (with_reducible exact flagstonedata_Scores.mono _ _)
      | (with_reducible exact flagstonelaw41_awake.mono _)
      | (with_reducible exact flagstoneref40_First.mono _ _ _)
      | (with_reducible exact flagstoneref40_Path.mono _ _ _ _)
      | (with_reducible exact flagstoneref40_Threshold.mono _ _ _)
      | (with_reducible exact sequence_Lower.mono _ _ _)
      | (with_reducible exact sequence_Upper.mono _ _ _)
      | (with_reducible exact LeO.refl _)
      | (with_reducible exact LeO.none _)
      | (with_reducible refine LeO.ite ?_ ?_)
      | (with_reducible refine LeO.bind ?_ (fun _ => ?_))
      | exact ih0 _ _ _ _
      | exact ih1 _ _ _ _ _ _
      | exact ih2 _ _ _ _ _ _ _
      | exact ih3 _ _ _ _ _ _ _ _
      | exact flagstonedata_Scores.mono _ _
      | exact flagstonelaw41_awake.mono _
      | exact flagstoneref40_First.mono _ _ _
      | exact flagstoneref40_Path.mono _ _ _ _
      | exact flagstoneref40_Threshold.mono _ _ _
      | exact sequence_Lower.mono _ _ _
      | exact sequence_Upper.mono _ _ _
      | exact LeO.none _
      | refine LeO.ite ?_ ?_
      | refine LeO.bind ?_ (fun _ => ?_)
    · intro y0 y1 y2 y3 y4 y5
      unfold flagstonelaw41_SequenceExcludes.l0
      repeat' first
      | (with_reducible exact ih0 _ _ _ _)
      | (with_reducible exact ih1 _ _ _ _ _ _)
      | (with_reducible exact ih2 _ _ _ _ _ _ _)
      | (with_reducible exact ih3 _ _ _ _ _ _ _ _)
      | (with_reducible exact flagstonedata_Scores.mono _ _)
      | (with_reducible exact flagstonelaw41_awake.mono _)
      | (with_reducible exact flagstoneref40_First.mono _ _ _)
      | (with_reducible exact flagstoneref40_Path.mono _ _ _ _)
      | (with_reducible exact flagstoneref40_Threshold.mono _ _ _)
      | (with_reducible exact sequence_Lower.mono _ _ _)
      | (with_reducible exact sequence_Upper.mono _ _ _)
      | (with_reducible exact LeO.refl _)
      | (with_reducible exact LeO.none _)
      | (with_reducible refine LeO.ite ?_ ?_)
      | (with_reducible refine LeO.bind ?_ (fun _ => ?_))
      | exact ih0 _ _ _ _
      | exact ih1 _ _ _ _ _ _
      | exact ih2 _ _ _ _ _ _ _
      | exact ih3 _ _ _ _ _ _ _ _
      | exact flagstonedata_Scores.mono _ _
      | exact flagstonelaw41_awake.mono _
      | exact flagstoneref40_First.mono _ _ _
      | exact flagstoneref40_Path.mono _ _ _ _
      | exact flagstoneref40_Threshold.mono _ _ _
      | exact sequence_Lower.mono _ _ _
      | exact sequence_Upper.mono _ _ _
      | exact LeO.none _
      | refine LeO.ite ?_ ?_
      | refine LeO.bind ?_ (fun _ => ?_)
    · intro y0 y1 y2 y3 y4 y5 y6
      unfold flagstonelaw41_SequenceExcludes.j2
      repeat' first
      | (with_reducible exact ih0 _ _ _ _)
      | (with_reducible exact ih1 _ _ _ _ _ _)
      | (with_reducible exact ih2 _ _ _ _ _ _ _)
      | (with_reducible exact ih3 _ _ _ _ _ _ _ _)
      | (with_reducible exact flagstonedata_Scores.mono _ _)
      | (with_reducible exact flagstonelaw41_awake.mono _)
      | (with_reducible exact flagstoneref40_First.mono _ _ _)
      | (with_reducible exact flagstoneref40_Path.mono _ _ _ _)
      | (with_reducible exact flagstoneref40_Threshold.mono _ _ _)
      | (with_reducible exact sequence_Lower.mono _ _ _)
      | (with_reducible exact sequence_Upper.mono _ _ _)
      | (with_reducible exact LeO.refl _)
      | (with_reducible exact LeO.none _)
      | (with_reducible refine LeO.ite ?_ ?_)
      | (with_reducible refine LeO.bind ?_ (fun _ => ?_))
      | exact ih0 _ _ _ _
      | exact ih1 _ _ _ _ _ _
      | exact ih2 _ _ _ _ _ _ _
      | exact ih3 _ _ _ _ _ _ _ _
      | exact flagstonedata_Scores.mono _ _
      | exact flagstonelaw41_awake.mono _
      | exact flagstoneref40_First.mono _ _ _
      | exact flagstoneref40_Path.mono _ _ _ _
      | exact flagstoneref40_Threshold.mono _ _ _
      | exact sequence_Lower.mono _ _ _
      | exact sequence_Upper.mono _ _ _
      | exact LeO.none _
      | refine LeO.ite ?_ ?_
      | refine LeO.bind ?_ (fun _ => ?_)
    · intro y0 y1 y2 y3 y4 y5 y6 y7
      unfold flagstonelaw41_SequenceExcludes.j3
      repeat' first
      | (with_reducible exact ih0 _ _ _ _)
      | (with_reducible exact ih1 _ _ _ _ _ _)
      | (with_reducible exact ih2 _ _ _ _ _ _ _)
      | (with_reducible exact ih3 _ _ _ _ _ _ _ _)
      | (with_reducible exact flagstonedata_Scores.mono _ _)
      | (with_reducible exact flagstonelaw41_awake.mono _)
      | (with_reducible exact flagstoneref40_First.mono _ _ _)
      | (with_reducible exact flagstoneref40_Path.mono _ _ _ _)
      | (with_reducible exact flagstoneref40_Threshold.mono _ _ _)
      | (with_reducible exact sequence_Lower.mono _ _ _)
      | (with_reducible exact sequence_Upper.mono _ _ _)
      | (with_reducible exact LeO.refl _)
      | (with_reducible exact LeO.none _)
      | (with_reducible refine LeO.ite ?_ ?_)
      | (with_reducible refine LeO.bind ?_ (fun _ => ?_))
      | exact ih0 _ _ _ _
      | exact ih1 _ _ _ _ _ _
      | exact ih2 _ _ _ _ _ _ _
      | exact ih3 _ _ _ _ _ _ _ _
      | exact flagstonedata_Scores.mono _ _
      | exact flagstonelaw41_awake.mono _
      | exact flagstoneref40_First.mono _ _ _
      | exact flagstoneref40_Path.mono _ _ _ _
      | exact flagstoneref40_Threshold.mono _ _ _
      | exact sequence_Lower.mono _ _ _
      | exact sequence_Upper.mono _ _ _
      | exact LeO.none _
      | refine LeO.ite ?_ ?_
      | refine LeO.bind ?_ (fun _ => ?_)
theorem flagstonelaw41_SequenceExcludes.mono : ∀ a0 a1 a2 k, LeO (flagstonelaw41_SequenceExcludes.f k a0 a1 a2) (flagstonelaw41_SequenceExcludes.f (k + 1) a0 a1 a2) := by
  intro a0 a1 a2 k
  obtain ⟨ih0, ih1, ih2, ih3⟩ := flagstonelaw41_SequenceExcludes.mono_l k
  unfold flagstonelaw41_SequenceExcludes.f
  repeat' first
      | (with_reducible exact ih0 _ _ _ _)
      | (with_reducible exact ih1 _ _ _ _ _ _)
      | (with_reducible exact ih2 _ _ _ _ _ _ _)
      | (with_reducible exact ih3 _ _ _ _ _ _ _ _)
      | (with_reducible exact flagstonedata_Scores.mono _ _)
      | (with_reducible exact flagstonelaw41_awake.mono _)
      | (with_reducible exact flagstoneref40_First.mono _ _ _)
      | (with_reducible exact flagstoneref40_Path.mono _ _ _ _)
      | (with_reducible exact flagstoneref40_Threshold.mono _ _ _)
      | (with_reducible exact sequence_Lower.mono _ _ _)
      | (with_reducible exact sequence_Upper.mono _ _ _)
      | (with_reducible exact LeO.refl _)
      | (with_reducible exact LeO.none _)
      | (with_reducible refine LeO.ite ?_ ?_)
      | (with_reducible refine LeO.bind ?_ (fun _ => ?_))
      | exact ih0 _ _ _ _
      | exact ih1 _ _ _ _ _ _
      | exact ih2 _ _ _ _ _ _ _
      | exact ih3 _ _ _ _ _ _ _ _
      | exact flagstonedata_Scores.mono _ _
      | exact flagstonelaw41_awake.mono _
      | exact flagstoneref40_First.mono _ _ _
      | exact flagstoneref40_Path.mono _ _ _ _
      | exact flagstoneref40_Threshold.mono _ _ _
      | exact sequence_Lower.mono _ _ _
      | exact sequence_Upper.mono _ _ _
      | exact LeO.none _
      | refine LeO.ite ?_ ?_
      | refine LeO.bind ?_ (fun _ => ?_)
set_option maxHeartbeats 8000000 in
set_option maxRecDepth 100000 in
theorem flagstonelaw41_SequenceExcludes.calls (k : Nat) (A0 : Option Addr) (c0 : Nat) (l0 : List Int) (a1 : Int) (A2 : Option Addr) (c2 : Nat) (l2 : List Int) (r : Bool) (w : World) (hr0 : Kd.C (Kd.int .u8) w A0 l0.length l0) (hc0 : l0.length ≤ c0) (hr2 : Kd.C (Kd.int .i16) w A2 l2.length l2) (hc2 : l2.length ≤ c2) (h : flagstonelaw41_SequenceExcludes.f k l0 a1 l2 = some r) :
    Calls Try.prog 6 #[.slice A0 l0.length c0, .int .u16 a1, .slice A2 l2.length c2] w fun e w' => e = .returned (.bool r) ∧ Below w.heap.size w w' := by
  have HR0 := Aside0.mk hr0
  have HC0 := Aside0.mk hc0
  clear hr0 hc0
  have HR2 := Aside0.mk hr2
  have HC2 := Aside0.mk hc2
  clear hr2 hc2
  have HB := Aside0.mk (Below.refl w.heap.size w)
  have H : ((flagstonelaw41_awake.f k).bind fun t346 => (if t346 = true then (if (l0.length : Int) > 60 then (flagstonelaw41_SequenceExcludes.j0 k l0 a1 l2 true) else (flagstonelaw41_SequenceExcludes.j0 k l0 a1 l2 (decide ((l2.length : Int) > 20)))) else (some false))) = some r := h
  clear h
  replace H := Option.bind_eq_some_iff.mp H
  obtain ⟨t346, A40, H⟩ := H
  replace H : (if t346 = true then (if (l0.length : Int) > 60 then (flagstonelaw41_SequenceExcludes.j0 k l0 a1 l2 true) else (flagstonelaw41_SequenceExcludes.j0 k l0 a1 l2 (decide ((l2.length : Int) > 20)))) else (some false)) = some r := H
  have A4 := Aside0.mk A40
  clear A40
  by_cases c5 : t346 = true
  · subst c5
    have H1 : (if (l0.length : Int) > 60 then (flagstonelaw41_SequenceExcludes.j0 k l0 a1 l2 true) else (flagstonelaw41_SequenceExcludes.j0 k l0 a1 l2 (decide ((l2.length : Int) > 20)))) = some r := by rw [if_pos rfl] at H; exact H
    clear H
    have H := H1
    clear H1
    have HC6 := Aside0.mk H
    clear H
    go_enter Try.func6, Try.ntmps6
    go_upto_region 3 with (first | ((with_reducible refine gate_callee (f := 10) rfl ?_); refine goesL_ (some 15) rfl rfl Try.func10 (by kernel_rfl) rfl #[] rfl (by (try simp only [List.map_toArray, List.map_cons, List.map_nil]); first | done | rfl | (simp only [List.length_drop, List.length_take]; rfl)) ?_; (with_reducible refine (flagstonelaw41_awake.calls k  true _ A4.out).mono ?_); rintro e w7 ⟨rfl, hb⟩; refine ⟨_, rfl, ?_⟩; have n0_ := Aside0.mk (below_step (by repeat (first | (with_reducible first | exact HB.out | apply below_alloc | apply pw_below_drewN | apply below_drew1) | exact HB.out)) hb); clear HB; have HB := n0_; clear n0_; (try clear hb); (try clear hb2); (try clear hk); (try clear hi)))
    (try simp only [Act.put, List.setIfInBounds_toArray, List.set_cons_zero, List.set_cons_succ])
    go_cut [24] (fun v24 wc => ∃ (kq : Nat) (x24_5 : Bool), v24 = .bool x24_5 ∧ Aside0 (flagstonelaw41_SequenceExcludes.j0 kq l0 a1 l2 x24_5 = some r) ∧ Aside0 (kq ≤ k) ∧ Aside0 (Below w.heap.size w wc))
    case first =>
      have H := HC6.out
      clear HC6
      by_cases c8 : (l0.length : Int) > 60
      · rw [if_pos c8] at H
        have c8b0 : decide (60 < (l0.length : Int)) = true := decide_eq_true c8
        have c8b1 : decide (60 < l0.length) = true := decide_eq_true (by omega)
        clear c8
        (first | rw [c8b0] | (simp only [i64_w, i32_w]; rw [c8b0]) | skip)
        have H' := Aside0.mk H
        clear H
        go_wp2
        go_meet
        case rel => exact ⟨_, (true), (by first | rfl | (simp; done) | (simp [*]; done) | exact congrArg (Value.int _) (by unfold wrap64; omega)), H', ⟨by first | omega | exact Nat.le_refl _⟩, ⟨by repeat (first | (with_reducible first | exact HB.out | apply below_alloc | apply pw_below_drewN | apply below_drew1) | exact HB.out)⟩⟩
      · rw [if_neg c8] at H
        have c8b0 : decide (60 < (l0.length : Int)) = false := decide_eq_false c8
        have c8b1 : decide (60 < l0.length) = false := decide_eq_false (by omega)
        clear c8
        (first | rw [c8b0] | (simp only [i64_w, i32_w]; rw [c8b0]) | skip)
        have H' := Aside0.mk H
        clear H
        go_wp2
        go_meet
        case rel => exact ⟨_, (decide ((l2.length : Int) > 20)), (by first | rfl | (simp; done) | (simp [*]; done) | exact congrArg (Value.int _) (by unfold wrap64; omega)), H', ⟨by first | omega | exact Nat.le_refl _⟩, ⟨by repeat (first | (with_reducible first | exact HB.out | apply below_alloc | apply pw_below_drewN | apply below_drew1) | exact HB.out)⟩⟩
    case rest =>
      clear HC6
      try clear c1
      try clear c2
      try clear p2
      try clear c5
      try clear c6
      try clear p6
      try clear c8
      try clear c8b0
      try clear c8b1
      obtain ⟨kq, x24_5, rfl, HA, HJ5, HB⟩ := hcut
      cases kq with
      | zero => exact absurd HA.out (by simp [flagstonelaw41_SequenceExcludes.j0])
      | succ kj5 =>
        have H := HA.out
        clear HA
        simp only [flagstonelaw41_SequenceExcludes.j0] at H
        by_cases c9 : x24_5 = true
        · subst c9
          have H1 : (some true) = some r := by rw [if_pos rfl] at H; exact H
          clear H
          have H := H1
          clear H1
          obtain rfl := Option.some.inj H
          go_wp2
          go_ret
          exact ⟨by first | rfl | (simp [errW_none, errW_some] <;> rfl) | (simp [*, errW_none, errW_some] <;> rfl), by repeat (first | (with_reducible first | exact HB.out | apply below_alloc | apply pw_below_drewN | apply below_drew1) | exact HB.out)⟩
        · replace c9 := Bool.eq_false_iff.mpr c9
          subst c9
          have H1 : ((flagstonedata_Scores.f kj5 l0).bind fun t347 => ((sequence_Lower.f kj5 t347 (wrap64 (1 + (Int.tmod (wrap64 (a1)) 999)))).bind fun t350 => ((sequence_Upper.f kj5 t347 (wrap64 (1 + (Int.tmod (wrap64 (a1)) 999)))).bind fun t351 => (flagstonelaw41_SequenceExcludes.l0 kj5 l2 t347 (wrap64 (1 + (Int.tmod (wrap64 (a1)) 999))) t350 t351 0)))) = some r := by rw [if_neg (show ¬ (false = true) by decide)] at H; exact H
          clear H
          have H := H1
          clear H1
          replace H := Option.bind_eq_some_iff.mp H
          obtain ⟨t347, A100, H⟩ := H
          replace H : ((sequence_Lower.f kj5 t347 (wrap64 (1 + (Int.tmod (wrap64 (a1)) 999)))).bind fun t350 => ((sequence_Upper.f kj5 t347 (wrap64 (1 + (Int.tmod (wrap64 (a1)) 999)))).bind fun t351 => (flagstonelaw41_SequenceExcludes.l0 kj5 l2 t347 (wrap64 (1 + (Int.tmod (wrap64 (a1)) 999))) t350 t351 0))) = some r := H
          have A10 := Aside0.mk A100
          clear A100
          replace H := Option.bind_eq_some_iff.mp H
          obtain ⟨t350, A110, H⟩ := H
          replace H : ((sequence_Upper.f kj5 t347 (wrap64 (1 + (Int.tmod (wrap64 (a1)) 999)))).bind fun t351 => (flagstonelaw41_SequenceExcludes.l0 kj5 l2 t347 (wrap64 (1 + (Int.tmod (wrap64 (a1)) 999))) t350 t351 0)) = some r := H
          have A11 := Aside0.mk A110
          clear A110
          replace H := Option.bind_eq_some_iff.mp H
          obtain ⟨t351, A120, H⟩ := H
          replace H : (flagstonelaw41_SequenceExcludes.l0 kj5 l2 t347 (wrap64 (1 + (Int.tmod (wrap64 (a1)) 999))) t350 t351 0) = some r := H
          have A12 := Aside0.mk A120
          clear A120
          have H' := Aside0.mk H
          clear H
          go_wp2_with (first | ((with_reducible refine gate_callee (f := 11) rfl ?_); refine goesL_ (some 26) rfl rfl Try.func11 (by kernel_rfl) rfl #[.slice A0 l0.length c0] rfl (by (try simp only [List.map_toArray, List.map_cons, List.map_nil]); first | done | rfl | (simp only [List.length_drop, List.length_take]; rfl)) ?_; (with_reducible refine (flagstonedata_Scores.calls kj5 _ _ l0 t347 _ ?side1 ?side2 A10.out).mono ?_); (case side1 => repeat (first | exact (Kd.C_below HR0.out HB.out) | (with_reducible refine Kd.C_alloc ?_ _) | (with_reducible refine Kd.C_drewN ?_ _) | (with_reducible refine Kd.C_drew ?_))); (case side2 => exact HC0.out); rintro e w13 ⟨v348, rfl, ho0, hb⟩; refine ⟨_, rfl, ?_⟩; have n0_ := Aside0.mk (Kd.R_lower ho0 (below_size (by repeat (first | (with_reducible first | exact HB.out | apply below_alloc | apply pw_below_drewN | apply below_drew1) | exact HB.out)))); have n1_ := Aside0.mk (below_step (by repeat (first | (with_reducible first | exact HB.out | apply below_alloc | apply pw_below_drewN | apply below_drew1) | exact HB.out)) hb); clear HB; have HO349 := n0_; have HB := n1_; clear n0_ n1_; (try clear hb); (try clear hb2); (try clear hk); (try clear hi); (try clear ho0); obtain ⟨Ao14, co14, eo14⟩ := Kd.R_slice HO349.out; subst eo14) | ((with_reducible refine gate_callee (f := 18) rfl ?_); refine goesL_ (some 33) rfl rfl Try.func18 (by kernel_rfl) rfl #[.slice Ao14 t347.length co14, .int .i64 (wrap64 (1 + (Int.tmod (wrap64 (a1)) 999)))] rfl (by (try simp only [List.map_toArray, List.map_cons, List.map_nil]); first | done | rfl | (simp only [List.length_drop, List.length_take]; rfl)) ?_; (with_reducible refine (sequence_Lower.calls kj5 _ _ t347 (wrap64 (1 + (Int.tmod (wrap64 (a1)) 999))) t350 _ ?side1 ?side2 A11.out).mono ?_); (case side1 => repeat (first | exact (Kd.R_reads' HO349.out).2.2 | (with_reducible refine Kd.C_alloc ?_ _) | (with_reducible refine Kd.C_drewN ?_ _) | (with_reducible refine Kd.C_drew ?_))); (case side2 => exact (Kd.R_reads' HO349.out).2.1); rintro e w15 ⟨rfl, hb⟩; refine ⟨_, rfl, ?_⟩; have n0_ := Aside0.mk (Kd.R_below (by (with_reducible repeat (first | apply Kd.R_alloc | apply Kd.R_drewN | apply Kd.R_drew)); exact HO349.out) hb); have n1_ := Aside0.mk (below_step (by repeat (first | (with_reducible first | exact HB.out | apply below_alloc | apply pw_below_drewN | apply below_drew1) | exact HB.out)) hb); clear HO349; clear HB; have HO349 := n0_; have HB := n1_; clear n0_ n1_; (try clear hb); (try clear hb2); (try clear hk); (try clear hi)) | ((with_reducible refine gate_callee (f := 20) rfl ?_); refine goesL_ (some 36) rfl rfl Try.func20 (by kernel_rfl) rfl #[.slice Ao14 t347.length co14, .int .i64 (wrap64 (1 + (Int.tmod (wrap64 (a1)) 999)))] rfl (by (try simp only [List.map_toArray, List.map_cons, List.map_nil]); first | done | rfl | (simp only [List.length_drop, List.length_take]; rfl)) ?_; (with_reducible refine (sequence_Upper.calls kj5 _ _ t347 (wrap64 (1 + (Int.tmod (wrap64 (a1)) 999))) t351 _ ?side1 ?side2 A12.out).mono ?_); (case side1 => repeat (first | exact (Kd.R_reads' HO349.out).2.2 | (with_reducible refine Kd.C_alloc ?_ _) | (with_reducible refine Kd.C_drewN ?_ _) | (with_reducible refine Kd.C_drew ?_))); (case side2 => exact (Kd.R_reads' HO349.out).2.1); rintro e w16 ⟨rfl, hb⟩; refine ⟨_, rfl, ?_⟩; have n0_ := Aside0.mk (Kd.R_below (by (with_reducible repeat (first | apply Kd.R_alloc | apply Kd.R_drewN | apply Kd.R_drew)); exact HO349.out) hb); have n1_ := Aside0.mk (below_step (by repeat (first | (with_reducible first | exact HB.out | apply below_alloc | apply pw_below_drewN | apply below_drew1) | exact HB.out)) hb); clear HO349; clear HB; have HO349 := n0_; have HB := n1_; clear n0_ n1_; (try clear hb); (try clear hb2); (try clear hk); (try clear hi)))
          go_loopg [11] kj5 (fun kq v11 w' => ∃ (x11_2 : Int), v11 = .int .i64 x11_2 ∧ Aside0 (flagstonelaw41_SequenceExcludes.l0 kq l2 t347 (wrap64 (1 + (Int.tmod (wrap64 (a1)) 999))) t350 t351 x11_2 = some r) ∧ Aside0 (kq ≤ kj5) ∧ Aside0 (Kd.R k50 50 w' w.heap.size (fun _ => True) (.slice Ao14 t347.length co14) t347) ∧ Aside0 (Below w.heap.size w w'))
          case atStart => exact ⟨(0), (by first | rfl | (simp; done) | (simp [*]; done) | exact congrArg (Value.int _) (by unfold wrap64; omega)), H', ⟨Nat.le_refl _⟩, ⟨by (with_reducible repeat (first | apply Kd.R_alloc | apply Kd.R_drewN | apply Kd.R_drew)); exact HO349.out⟩, ⟨by repeat (first | (with_reducible first | exact HB.out | apply below_alloc | apply pw_below_drewN | apply below_drew1) | exact HB.out)⟩⟩
          case round =>
            clear H'
            try clear c1
            try clear c2
            try clear p2
            try clear c5
            try clear c6
            try clear p6
            try clear c8
            try clear c8b0
            try clear c8b1
            try clear c9
            try clear c10
            try clear c11
            try clear p2
            try clear p6
            obtain ⟨x11_2, rfl, HA, HK2, HO_7, HB⟩ := hrel
            cases gk with
            | zero => exact absurd HA.out (by simp [flagstonelaw41_SequenceExcludes.l0])
            | succ k2 =>
              have H := HA.out
              clear HA
              simp only [flagstonelaw41_SequenceExcludes.l0] at H
              by_cases c17 : x11_2 < (wrap64 ((l2.length : Int) + 4))
              · rw [if_pos c17] at H
                have c17b0 : decide (x11_2 < (wrap64 ((l2.length : Int) + 4))) = true := decide_eq_true c17
                clear c17
                obtain ⟨y352, hy352⟩ : ∃ y_ : List Int, y_ = (([wrap64 (t350 - 1), t350, t351, wrap64 (t351 + 1)] : List Int)) := ⟨_, rfl⟩
                replace H : (if 0 ≤ (Int.tmod x11_2 4) then (if (Int.tmod x11_2 4) < (y352.length : Int) then (if x11_2 ≥ 4 then (if 0 ≤ (wrap64 (x11_2 - 4)) then (if (wrap64 (x11_2 - 4)) < (l2.length : Int) then (flagstonelaw41_SequenceExcludes.j2 k2 l2 t347 (wrap64 (1 + (Int.tmod (wrap64 (a1)) 999))) t350 t351 x11_2 (Int.tmod (wrap64 (rd l2 (wrap64 (x11_2 - 4)))) 1001)) else (none)) else (none)) else (flagstonelaw41_SequenceExcludes.j2 k2 l2 t347 (wrap64 (1 + (Int.tmod (wrap64 (a1)) 999))) t350 t351 x11_2 (rd y352 (Int.tmod x11_2 4)))) else (none)) else (none)) = some r := by first | (rw [hy352]; with_reducible exact H) | (have H2_ := (Option.bind_some _ _).symm.trans H; rw [hy352]; with_reducible exact H2_) | (have H2_ := (Option.bind_some _ _).symm.trans H; with_reducible exact H2_) | with_reducible exact H | (rw [hy352]; exact H) | exact H
                have Ny352 := Aside0.mk hy352
                clear hy352
                obtain ⟨ji18, hji18⟩ : ∃ j_ : Int, (Int.tmod x11_2 4) = j_ := ⟨_, rfl⟩
                replace H : (if 0 ≤ (ji18) then (if (ji18) < (y352.length : Int) then (if x11_2 ≥ 4 then (if 0 ≤ (wrap64 (x11_2 - 4)) then (if (wrap64 (x11_2 - 4)) < (l2.length : Int) then (flagstonelaw41_SequenceExcludes.j2 k2 l2 t347 (wrap64 (1 + (Int.tmod (wrap64 (a1)) 999))) t350 t351 x11_2 (Int.tmod (wrap64 (rd l2 (wrap64 (x11_2 - 4)))) 1001)) else (none)) else (none)) else (flagstonelaw41_SequenceExcludes.j2 k2 l2 t347 (wrap64 (1 + (Int.tmod (wrap64 (a1)) 999))) t350 t351 x11_2 (rd y352 (ji18)))) else (none)) else (none)) = some r := by first | (rw [hji18] at H; exact H) | (simp only [hji18] at H ⊢; exact H)
                by_cases c19 : 0 ≤ (ji18)
                · rw [if_pos c19] at H
                  have c19b0 : decide (0 ≤ (ji18)) = true := decide_eq_true c19
                  clear c19
                  by_cases c20 : (ji18) < (y352.length : Int)
                  · rw [if_pos c20] at H
                    have c20b0 : decide ((ji18) < (y352.length : Int)) = true := decide_eq_true c20
                    clear c20
                    have HC21 := Aside0.mk H
                    clear H
                    go_upto_if 56 with (first | ((with_reducible refine gate_dst (N := 50) rfl ?_); (try (refine gate_guard (by rfl) ?_; dsimp only)); refine Kd.R_lit (Kd.int .i64) _ 3 ?hg (N := 50) ?hd (xs := ([wrap64 (t350 - 1), t350, t351, wrap64 (t351 + 1)] : List Int)) (inner := [.int .i64 (wrap64 (t350 - 1)), .int .i64 t350, .int .i64 t351, .int .i64 (wrap64 (t351 + 1))]) (ok := fun _ => True) (okp := fun _ => True) ?hr ?hp (fun _ hk => hk) trivial (Below.refl _ _) (Nat.le_refl _) (by simp) ?_; (case hd => rfl); (case hg => rfl); (case hr => first | (go_simp; done) | (go_simp; rfl)); (case hp => exact (Reps.one (show Kd.M (Kd.int .i64) _ _ _ (wrap64 (t350 - 1)) [.int .i64 (wrap64 (t350 - 1))] from rfl) (Reps.one (show Kd.M (Kd.int .i64) _ _ _ t350 [.int .i64 t350] from rfl) (Reps.one (show Kd.M (Kd.int .i64) _ _ _ t351 [.int .i64 t351] from rfl) (Reps.one (show Kd.M (Kd.int .i64) _ _ _ (wrap64 (t351 + 1)) [.int .i64 (wrap64 (t351 + 1))] from rfl) (Reps.none _ _)))))); intro v353 w22 ho23 hb hg_ hnew_; clear hg_ hnew_; (first | rw [← Ny352.out] at ho23 | (simp only [Int.reduceToNat] at ho23; rw [← Ny352.out] at ho23)); have n0_ := Aside0.mk (Kd.R_below (by (with_reducible repeat (first | apply Kd.R_alloc | apply Kd.R_drewN | apply Kd.R_drew)); exact HO_7.out) hb); have n1_ := Aside0.mk (Kd.R_lower ho23 (below_size (by repeat (first | (with_reducible first | exact HB.out | apply below_alloc | apply pw_below_drewN | apply below_drew1) | exact HB.out)))); have n2_ := Aside0.mk (below_step (by repeat (first | (with_reducible first | exact HB.out | apply below_alloc | apply pw_below_drewN | apply below_drew1) | exact HB.out)) hb); clear HO_7; clear HB; have HO_7 := n0_; have HO354 := n1_; have HB := n2_; clear n0_ n1_ n2_; clear hb ho23; obtain ⟨Ao24, co24, eo24⟩ := Kd.R_slice HO354.out; subst eo24; have p355 : 0 ≤ ((ji18) : Int) := of_decide_eq_true (by first | (with_reducible assumption) | assumption); have q355 : (ji18) < (y352.length : Int) := of_decide_eq_true (by first | (with_reducible assumption) | assumption); obtain ⟨ad355, e355, hx355_0⟩ := Kd.at_int (Kd.R_reads' HO354.out).2.2 (ji18) p355 q355; cases e355; replace p355 := eq_true p355; replace q355 := eq_true q355))
                    (try simp only [Act.put, List.setIfInBounds_toArray, List.set_cons_zero, List.set_cons_succ])
                    go_cut [12] (fun v12 wc => ∃ (kq : Nat) (x12_20 : Int), v12 = .int .i64 x12_20 ∧ Aside0 (flagstonelaw41_SequenceExcludes.j2 kq l2 t347 (wrap64 (1 + (Int.tmod (wrap64 (a1)) 999))) t350 t351 x11_2 x12_20 = some r) ∧ Aside0 (kq ≤ k2) ∧ Aside0 (Kd.R k50 50 wc w.heap.size (fun _ => True) (.slice Ao14 t347.length co14) t347) ∧ Aside0 (Below w.heap.size w wc))
                    case first =>
                      have H := HC21.out
                      clear HC21
                      by_cases c25 : x11_2 ≥ 4
                      · rw [if_pos c25] at H
                        have c25b0 : decide (4 ≤ x11_2) = true := decide_eq_true c25
                        clear c25
                        (first | rw [c25b0] | (simp only [i64_w, i32_w]; rw [c25b0]) | skip)
                        obtain ⟨ji26, hji26⟩ : ∃ j_ : Int, (wrap64 (x11_2 - 4)) = j_ := ⟨_, rfl⟩
                        replace H : (if 0 ≤ (ji26) then (if (ji26) < (l2.length : Int) then (flagstonelaw41_SequenceExcludes.j2 k2 l2 t347 (wrap64 (1 + (Int.tmod (wrap64 (a1)) 999))) t350 t351 x11_2 (Int.tmod (wrap64 (rd l2 (ji26))) 1001)) else (none)) else (none)) = some r := by first | (rw [hji26] at H; exact H) | (simp only [hji26] at H ⊢; exact H)
                        have hji26w : (IntKind.i64.wrap (x11_2 - 4)) = ji26 := (i64_w _).trans hji26
                        by_cases c27 : 0 ≤ (ji26)
                        · rw [if_pos c27] at H
                          have c27b0 : decide (0 ≤ (ji26)) = true := decide_eq_true c27
                          clear c27
                          by_cases c28 : (ji26) < (l2.length : Int)
                          · rw [if_pos c28] at H
                            have c28b0 : decide ((ji26) < (l2.length : Int)) = true := decide_eq_true c28
                            clear c28
                            have H' := Aside0.mk H
                            clear H
                            have p356 : 0 ≤ ((ji26) : Int) := of_decide_eq_true (by first | (with_reducible assumption) | assumption)
                            have q356 : (ji26) < (l2.length : Int) := of_decide_eq_true (by first | (with_reducible assumption) | assumption)
                            obtain ⟨ad356, e356, hx356_0⟩ := Kd.at_int HR2.out (ji26) p356 q356
                            cases e356
                            replace hx356_0 := (HB.out.cell (World.block_lt_of_cell? w _ hx356_0)).trans hx356_0
                            replace p356 := eq_true p356
                            replace q356 := eq_true q356
                            go_wp2
                            go_meet
                            case rel => exact ⟨_, (Int.tmod (wrap64 (rd l2 (ji26))) 1001), (by first | rfl | (simp; done) | (simp only [← hji26] <;> (first | rfl | simp)) | (simp [*]; done) | exact congrArg (Value.int _) (by unfold wrap64; omega)), H', ⟨by have := HJ5.out; have := HK2.out; first | omega | exact Nat.le_refl _⟩, ⟨by (with_reducible repeat (first | apply Kd.R_alloc | apply Kd.R_drewN | apply Kd.R_drew)); exact HO_7.out⟩, ⟨by repeat (first | (with_reducible first | exact HB.out | apply below_alloc | apply pw_below_drewN | apply below_drew1) | exact HB.out)⟩⟩
                          · rw [if_neg c28] at H
                            exact absurd H (by simp)
                        · rw [if_neg c27] at H
                          exact absurd H (by simp)
                      · rw [if_neg c25] at H
                        have c25b0 : decide (4 ≤ x11_2) = false := decide_eq_false c25
                        clear c25
                        (first | rw [c25b0] | (simp only [i64_w, i32_w]; rw [c25b0]) | skip)
                        have H' := Aside0.mk H
                        clear H
                        go_wp2
                        go_meet
                        case rel => exact ⟨_, (rd y352 (ji18)), (by first | rfl | (simp; done) | (simp only [← hji18] <;> (first | rfl | simp)) | (simp [*]; done) | exact congrArg (Value.int _) (by unfold wrap64; omega)), H', ⟨by have := HJ5.out; have := HK2.out; first | omega | exact Nat.le_refl _⟩, ⟨by (with_reducible repeat (first | apply Kd.R_alloc | apply Kd.R_drewN | apply Kd.R_drew)); exact HO_7.out⟩, ⟨by repeat (first | (with_reducible first | exact HB.out | apply below_alloc | apply pw_below_drewN | apply below_drew1) | exact HB.out)⟩⟩
                    case rest =>
                      clear HC21
                      try clear c1
                      try clear c2
                      try clear p2
                      try clear p3
                      try clear q3
                      try clear hx3
                      try clear c5
                      try clear c6
                      try clear p6
                      try clear c8
                      try clear c8b0
                      try clear c8b1
                      try clear c9
                      try clear c10
                      try clear c11
                      try clear c17
                      try clear c17b0
                      try clear c18
                      try clear c19
                      try clear c19b0
                      try clear c20
                      try clear c20b0
                      try clear c25
                      try clear c25b0
                      try clear c27
                      try clear c27b0
                      try clear c28
                      try clear c28b0
                      try clear hx355_0
                      try clear hx356_0
                      try clear p2
                      try clear p355
                      try clear p356
                      try clear p6
                      try clear q355
                      try clear q356
                      obtain ⟨kq, x12_20, rfl, HA, HJ20, HO_7, HB⟩ := hcut
                      cases kq with
                      | zero => exact absurd HA.out (by simp [flagstonelaw41_SequenceExcludes.j2])
                      | succ kj20 =>
                        have H := HA.out
                        clear HA
                        simp only [flagstonelaw41_SequenceExcludes.j2] at H
                        have HC29 := Aside0.mk H
                        clear H
                        go_upto_region 14 with (fail)
                        go_cut [69] (fun v69 wc => ∃ (kq : Nat) (x69_28 : Bool), v69 = .bool x69_28 ∧ Aside0 (flagstonelaw41_SequenceExcludes.j3 kq l2 t347 (wrap64 (1 + (Int.tmod (wrap64 (a1)) 999))) t350 t351 x11_2 x12_20 x69_28 = some r) ∧ Aside0 (kq ≤ kj20) ∧ Aside0 (Kd.R k50 50 wc w.heap.size (fun _ => True) (.slice Ao14 t347.length co14) t347) ∧ Aside0 (Below w.heap.size w wc))
                        case first =>
                          have H := HC29.out
                          clear HC29
                          by_cases c30 : x12_20 < (-1000)
                          · rw [if_pos c30] at H
                            have c30b0 : decide (x12_20 < (-1000)) = true := decide_eq_true c30
                            clear c30
                            (first | rw [c30b0] | (simp only [i64_w, i32_w]; rw [c30b0]) | skip)
                            have H' := Aside0.mk H
                            clear H
                            go_wp2
                            go_meet
                            case rel => exact ⟨_, (true), (by first | rfl | (simp; done) | (simp [*]; done) | exact congrArg (Value.int _) (by unfold wrap64; omega)), H', ⟨by have := HJ5.out; have := HK2.out; have := HJ20.out; first | omega | exact Nat.le_refl _⟩, ⟨by (with_reducible repeat (first | apply Kd.R_alloc | apply Kd.R_drewN | apply Kd.R_drew)); exact HO_7.out⟩, ⟨by repeat (first | (with_reducible first | exact HB.out | apply below_alloc | apply pw_below_drewN | apply below_drew1) | exact HB.out)⟩⟩
                          · rw [if_neg c30] at H
                            have c30b0 : decide (x12_20 < (-1000)) = false := decide_eq_false c30
                            clear c30
                            (first | rw [c30b0] | (simp only [i64_w, i32_w]; rw [c30b0]) | skip)
                            have H' := Aside0.mk H
                            clear H
                            go_wp2
                            go_meet
                            case rel => exact ⟨_, (decide (x12_20 > 1000)), (by first | rfl | (simp; done) | (simp [*]; done) | exact congrArg (Value.int _) (by unfold wrap64; omega)), H', ⟨by have := HJ5.out; have := HK2.out; have := HJ20.out; first | omega | exact Nat.le_refl _⟩, ⟨by (with_reducible repeat (first | apply Kd.R_alloc | apply Kd.R_drewN | apply Kd.R_drew)); exact HO_7.out⟩, ⟨by repeat (first | (with_reducible first | exact HB.out | apply below_alloc | apply pw_below_drewN | apply below_drew1) | exact HB.out)⟩⟩
                        case rest =>
                          clear HC29
                          try clear c1
                          try clear c2
                          try clear p2
                          try clear c3
                          try clear p3
                          try clear q3
                          try clear hx3
                          try clear c5
                          try clear c6
                          try clear p6
                          try clear c8
                          try clear c8b0
                          try clear c8b1
                          try clear c9
                          try clear c10
                          try clear c11
                          try clear c17
                          try clear c17b0
                          try clear c18
                          try clear c19
                          try clear c19b0
                          try clear c20
                          try clear c20b0
                          try clear c25
                          try clear c25b0
                          try clear c27
                          try clear c27b0
                          try clear c28
                          try clear c28b0
                          try clear c30
                          try clear c30b0
                          try clear hx355_0
                          try clear hx356_0
                          try clear p2
                          try clear p3
                          try clear p355
                          try clear p356
                          try clear p6
                          try clear q3
                          try clear q355
                          try clear q356
                          obtain ⟨kq, x69_28, rfl, HA, HJ28, HO_7, HB⟩ := hcut
                          cases kq with
                          | zero => exact absurd HA.out (by simp [flagstonelaw41_SequenceExcludes.j3])
                          | succ kj28 =>
                            have H := HA.out
                            clear HA
                            simp only [flagstonelaw41_SequenceExcludes.j3] at H
                            by_cases c31 : x69_28 = true
                            · subst c31
                              have H1 : (flagstonelaw41_SequenceExcludes.l0 kj28 l2 t347 (wrap64 (1 + (Int.tmod (wrap64 (a1)) 999))) t350 t351 (wrap64 (x11_2 + 1))) = some r := by rw [if_pos rfl] at H; exact H
                              clear H
                              have H := H1
                              clear H1
                              have H' := Aside0.mk H
                              clear H
                              go_wp2
                              go_roundg kj28
                              case measure => have := HJ5.out; have := HK2.out; have := HJ20.out; have := HJ28.out; omega
                              case rel => exact ⟨(wrap64 (x11_2 + 1)), (by first | rfl | (simp; done) | (simp [*]; done) | exact congrArg (Value.int _) (by unfold wrap64; omega)), H', ⟨by have := HJ5.out; have := HK2.out; have := HJ20.out; have := HJ28.out; omega⟩, ⟨by (with_reducible repeat (first | apply Kd.R_alloc | apply Kd.R_drewN | apply Kd.R_drew)); exact HO_7.out⟩, ⟨by repeat (first | (with_reducible first | exact HB.out | apply below_alloc | apply pw_below_drewN | apply below_drew1) | exact HB.out)⟩⟩
                            · replace c31 := Bool.eq_false_iff.mpr c31
                              subst c31
                              have H1 : ((flagstoneref40_Path.f kj28 t347 x12_20 true).bind fun t357 => ((flagstoneref40_Threshold.f kj28 (wrap64 (1 + (Int.tmod (wrap64 (a1)) 999))) 2).bind fun t360 => ((flagstoneref40_First.f kj28 t357 t360).bind fun t361 => ((flagstoneref40_Path.f kj28 t347 x12_20 false).bind fun t362 => ((flagstoneref40_Threshold.f kj28 (wrap64 (1 + (Int.tmod (wrap64 (a1)) 999))) 2).bind fun t365 => ((flagstoneref40_First.f kj28 t362 t365).bind fun t366 => (if ((decide (t361 > 0)) != (decide (x12_20 < t350))) = true then (some false) else (if ((decide (t366 > 0)) != (decide (x12_20 > t351))) = true then (some false) else (flagstonelaw41_SequenceExcludes.l0 kj28 l2 t347 (wrap64 (1 + (Int.tmod (wrap64 (a1)) 999))) t350 t351 (wrap64 (x11_2 + 1))))))))))) = some r := by rw [if_neg (show ¬ (false = true) by decide)] at H; exact H
                              clear H
                              have H := H1
                              clear H1
                              replace H := Option.bind_eq_some_iff.mp H
                              obtain ⟨t357, A320, H⟩ := H
                              replace H : ((flagstoneref40_Threshold.f kj28 (wrap64 (1 + (Int.tmod (wrap64 (a1)) 999))) 2).bind fun t360 => ((flagstoneref40_First.f kj28 t357 t360).bind fun t361 => ((flagstoneref40_Path.f kj28 t347 x12_20 false).bind fun t362 => ((flagstoneref40_Threshold.f kj28 (wrap64 (1 + (Int.tmod (wrap64 (a1)) 999))) 2).bind fun t365 => ((flagstoneref40_First.f kj28 t362 t365).bind fun t366 => (if ((decide (t361 > 0)) != (decide (x12_20 < t350))) = true then (some false) else (if ((decide (t366 > 0)) != (decide (x12_20 > t351))) = true then (some false) else (flagstonelaw41_SequenceExcludes.l0 kj28 l2 t347 (wrap64 (1 + (Int.tmod (wrap64 (a1)) 999))) t350 t351 (wrap64 (x11_2 + 1)))))))))) = some r := H
                              have A32 := Aside0.mk A320
                              clear A320
                              replace H := Option.bind_eq_some_iff.mp H
                              obtain ⟨t360, A330, H⟩ := H
                              replace H : ((flagstoneref40_First.f kj28 t357 t360).bind fun t361 => ((flagstoneref40_Path.f kj28 t347 x12_20 false).bind fun t362 => ((flagstoneref40_Threshold.f kj28 (wrap64 (1 + (Int.tmod (wrap64 (a1)) 999))) 2).bind fun t365 => ((flagstoneref40_First.f kj28 t362 t365).bind fun t366 => (if ((decide (t361 > 0)) != (decide (x12_20 < t350))) = true then (some false) else (if ((decide (t366 > 0)) != (decide (x12_20 > t351))) = true then (some false) else (flagstonelaw41_SequenceExcludes.l0 kj28 l2 t347 (wrap64 (1 + (Int.tmod (wrap64 (a1)) 999))) t350 t351 (wrap64 (x11_2 + 1))))))))) = some r := H
                              have A33 := Aside0.mk A330
                              clear A330
                              replace H := Option.bind_eq_some_iff.mp H
                              obtain ⟨t361, A340, H⟩ := H
                              replace H : ((flagstoneref40_Path.f kj28 t347 x12_20 false).bind fun t362 => ((flagstoneref40_Threshold.f kj28 (wrap64 (1 + (Int.tmod (wrap64 (a1)) 999))) 2).bind fun t365 => ((flagstoneref40_First.f kj28 t362 t365).bind fun t366 => (if ((decide (t361 > 0)) != (decide (x12_20 < t350))) = true then (some false) else (if ((decide (t366 > 0)) != (decide (x12_20 > t351))) = true then (some false) else (flagstonelaw41_SequenceExcludes.l0 kj28 l2 t347 (wrap64 (1 + (Int.tmod (wrap64 (a1)) 999))) t350 t351 (wrap64 (x11_2 + 1)))))))) = some r := H
                              have A34 := Aside0.mk A340
                              clear A340
                              replace H := Option.bind_eq_some_iff.mp H
                              obtain ⟨t362, A350, H⟩ := H
                              replace H : ((flagstoneref40_Threshold.f kj28 (wrap64 (1 + (Int.tmod (wrap64 (a1)) 999))) 2).bind fun t365 => ((flagstoneref40_First.f kj28 t362 t365).bind fun t366 => (if ((decide (t361 > 0)) != (decide (x12_20 < t350))) = true then (some false) else (if ((decide (t366 > 0)) != (decide (x12_20 > t351))) = true then (some false) else (flagstonelaw41_SequenceExcludes.l0 kj28 l2 t347 (wrap64 (1 + (Int.tmod (wrap64 (a1)) 999))) t350 t351 (wrap64 (x11_2 + 1))))))) = some r := H
                              have A35 := Aside0.mk A350
                              clear A350
                              replace H := Option.bind_eq_some_iff.mp H
                              obtain ⟨t365, A360, H⟩ := H
                              replace H : ((flagstoneref40_First.f kj28 t362 t365).bind fun t366 => (if ((decide (t361 > 0)) != (decide (x12_20 < t350))) = true then (some false) else (if ((decide (t366 > 0)) != (decide (x12_20 > t351))) = true then (some false) else (flagstonelaw41_SequenceExcludes.l0 kj28 l2 t347 (wrap64 (1 + (Int.tmod (wrap64 (a1)) 999))) t350 t351 (wrap64 (x11_2 + 1)))))) = some r := H
                              have A36 := Aside0.mk A360
                              clear A360
                              replace H := Option.bind_eq_some_iff.mp H
                              obtain ⟨t366, A370, H⟩ := H
                              replace H : (if ((decide (t361 > 0)) != (decide (x12_20 < t350))) = true then (some false) else (if ((decide (t366 > 0)) != (decide (x12_20 > t351))) = true then (some false) else (flagstonelaw41_SequenceExcludes.l0 kj28 l2 t347 (wrap64 (1 + (Int.tmod (wrap64 (a1)) 999))) t350 t351 (wrap64 (x11_2 + 1))))) = some r := H
                              have A37 := Aside0.mk A370
                              clear A370
                              by_cases c38 : ((decide (t361 > 0)) != (decide (x12_20 < t350))) = true
                              · rw [if_pos c38] at H
                                have c38b0 : ((decide (t361 > 0)) != (decide (x12_20 < t350))) = true := c38
                                (try (have c38b1 : decide ((decide (t361 > 0)) = (decide (x12_20 < t350))) = false := by simpa using c38))
                                (try (have c38b2 : ((decide (t361 > 0)) == (decide (x12_20 < t350))) = false := by simpa using c38))
                                (try (have c38b3 : ¬ ((decide (t361 > 0)) = (decide (x12_20 < t350))) := by simpa using c38))
                                clear c38
                                obtain rfl := Option.some.inj H
                                go_wp2_with (first | ((with_reducible refine gate_callee (f := 23) rfl ?_); refine goesL_ (some 72) rfl rfl Try.func23 (by kernel_rfl) rfl #[.slice Ao14 t347.length co14, .int .i64 x12_20, .bool true] rfl (by (try simp only [List.map_toArray, List.map_cons, List.map_nil]); first | done | rfl | (simp only [List.length_drop, List.length_take]; rfl)) ?_; (with_reducible refine (flagstoneref40_Path.calls kj28 _ _ t347 x12_20 true t357 _ ?side1 ?side2 A32.out).mono ?_); (case side1 => repeat (first | exact (Kd.R_reads' HO_7.out).2.2 | (with_reducible refine Kd.C_alloc ?_ _) | (with_reducible refine Kd.C_drewN ?_ _) | (with_reducible refine Kd.C_drew ?_))); (case side2 => exact (Kd.R_reads' HO_7.out).2.1); rintro e w39 ⟨v358, rfl, ho0, hb⟩; refine ⟨_, rfl, ?_⟩; have n0_ := Aside0.mk (Kd.R_below (by (with_reducible repeat (first | apply Kd.R_alloc | apply Kd.R_drewN | apply Kd.R_drew)); exact HO_7.out) hb); have n1_ := Aside0.mk (Kd.R_lower ho0 (below_size (by repeat (first | (with_reducible first | exact HB.out | apply below_alloc | apply pw_below_drewN | apply below_drew1) | exact HB.out)))); have n2_ := Aside0.mk (below_step (by repeat (first | (with_reducible first | exact HB.out | apply below_alloc | apply pw_below_drewN | apply below_drew1) | exact HB.out)) hb); clear HO_7; clear HB; have HO_7 := n0_; have HO359 := n1_; have HB := n2_; clear n0_ n1_ n2_; (try clear hb); (try clear hb2); (try clear hk); (try clear hi); (try clear ho0)) | ((with_reducible refine gate_callee (f := 24) rfl ?_); refine goesL_ (some 74) rfl rfl Try.func24 (by kernel_rfl) rfl #[.int .i64 (wrap64 (1 + (Int.tmod (wrap64 (a1)) 999))), .int .i64 2] rfl (by (try simp only [List.map_toArray, List.map_cons, List.map_nil]); first | done | rfl | (simp only [List.length_drop, List.length_take]; rfl)) ?_; (with_reducible refine (flagstoneref40_Threshold.calls kj28 (wrap64 (1 + (Int.tmod (wrap64 (a1)) 999))) 2 t360 _ A33.out).mono ?_); rintro e w' ⟨rfl, ⟨nd, rfl⟩⟩; refine ⟨_, rfl, ?_⟩; obtain ⟨Ao40, co40, eo40⟩ := Kd.R_slice HO359.out; subst eo40) | ((with_reducible refine gate_callee (f := 22) rfl ?_); refine goesL_ (some 75) rfl rfl Try.func22 (by kernel_rfl) rfl #[.slice Ao40 t357.length co40, .int .i64 t360] rfl (by (try simp only [List.map_toArray, List.map_cons, List.map_nil]); first | done | rfl | (simp only [List.length_drop, List.length_take]; rfl)) ?_; (with_reducible refine (flagstoneref40_First.calls kj28 _ _ t357 t360 t361 _ ?side1 ?side2 A34.out).mono ?_); (case side1 => repeat (first | exact (Kd.R_reads' HO359.out).2.2 | (with_reducible refine Kd.C_alloc ?_ _) | (with_reducible refine Kd.C_drewN ?_ _) | (with_reducible refine Kd.C_drew ?_))); (case side2 => exact (Kd.R_reads' HO359.out).2.1); rintro e w' ⟨rfl, ⟨nd, rfl⟩⟩; refine ⟨_, rfl, ?_⟩) | ((with_reducible refine gate_callee (f := 23) rfl ?_); refine goesL_ (some 79) rfl rfl Try.func23 (by kernel_rfl) rfl #[.slice Ao14 t347.length co14, .int .i64 x12_20, .bool false] rfl (by (try simp only [List.map_toArray, List.map_cons, List.map_nil]); first | done | rfl | (simp only [List.length_drop, List.length_take]; rfl)) ?_; (with_reducible refine (flagstoneref40_Path.calls kj28 _ _ t347 x12_20 false t362 _ ?side1 ?side2 A35.out).mono ?_); (case side1 => repeat (first | exact (Kd.R_reads' HO_7.out).2.2 | (with_reducible refine Kd.C_alloc ?_ _) | (with_reducible refine Kd.C_drewN ?_ _) | (with_reducible refine Kd.C_drew ?_))); (case side2 => exact (Kd.R_reads' HO_7.out).2.1); rintro e w41 ⟨v363, rfl, ho0, hb⟩; refine ⟨_, rfl, ?_⟩; have n0_ := Aside0.mk (Kd.R_below (by (with_reducible repeat (first | apply Kd.R_alloc | apply Kd.R_drewN | apply Kd.R_drew)); exact HO_7.out) hb); have n1_ := Aside0.mk (Kd.R_elder' (by (with_reducible repeat (first | apply Kd.R_alloc | apply Kd.R_drewN | apply Kd.R_drew)); exact HO359.out) (Kd.R_base ho0) hb); have n2_ := Aside0.mk (Kd.R_lower (Kd.R_new' ho0 (Kd.R_lt (by (with_reducible repeat (first | apply Kd.R_alloc | apply Kd.R_drewN | apply Kd.R_drew)); exact HO359.out))) (below_size (by repeat (first | (with_reducible first | exact HB.out | apply below_alloc | apply pw_below_drewN | apply below_drew1) | exact HB.out)))); have n3_ := Aside0.mk (below_step (by repeat (first | (with_reducible first | exact HB.out | apply below_alloc | apply pw_below_drewN | apply below_drew1) | exact HB.out)) hb); clear HO_7; clear HO359; clear HB; have HO_7 := n0_; have HO359 := n1_; have HO364 := n2_; have HB := n3_; clear n0_ n1_ n2_ n3_; (try clear hb); (try clear hb2); (try clear hk); (try clear hi); (try clear ho0)) | ((with_reducible refine gate_callee (f := 24) rfl ?_); refine goesL_ (some 81) rfl rfl Try.func24 (by kernel_rfl) rfl #[.int .i64 (wrap64 (1 + (Int.tmod (wrap64 (a1)) 999))), .int .i64 2] rfl (by (try simp only [List.map_toArray, List.map_cons, List.map_nil]); first | done | rfl | (simp only [List.length_drop, List.length_take]; rfl)) ?_; (with_reducible refine (flagstoneref40_Threshold.calls kj28 (wrap64 (1 + (Int.tmod (wrap64 (a1)) 999))) 2 t365 _ A36.out).mono ?_); rintro e w' ⟨rfl, ⟨nd, rfl⟩⟩; refine ⟨_, rfl, ?_⟩; obtain ⟨Ao42, co42, eo42⟩ := Kd.R_slice HO364.out; subst eo42) | ((with_reducible refine gate_callee (f := 22) rfl ?_); refine goesL_ (some 82) rfl rfl Try.func22 (by kernel_rfl) rfl #[.slice Ao42 t362.length co42, .int .i64 t365] rfl (by (try simp only [List.map_toArray, List.map_cons, List.map_nil]); first | done | rfl | (simp only [List.length_drop, List.length_take]; rfl)) ?_; (with_reducible refine (flagstoneref40_First.calls kj28 _ _ t362 t365 t366 _ ?side1 ?side2 A37.out).mono ?_); (case side1 => repeat (first | exact (Kd.R_reads' HO364.out).2.2 | (with_reducible refine Kd.C_alloc ?_ _) | (with_reducible refine Kd.C_drewN ?_ _) | (with_reducible refine Kd.C_drew ?_))); (case side2 => exact (Kd.R_reads' HO364.out).2.1); rintro e w' ⟨rfl, ⟨nd, rfl⟩⟩; refine ⟨_, rfl, ?_⟩))
                                go_ret
                                exact ⟨by first | rfl | (simp [errW_none, errW_some] <;> rfl) | (simp only [← hji18]; first | rfl | (simp [errW_none, errW_some] <;> rfl)) | (simp [*, errW_none, errW_some] <;> rfl), by repeat (first | (with_reducible first | exact HB.out | apply below_alloc | apply pw_below_drewN | apply below_drew1) | exact HB.out)⟩
                              · rw [if_neg c38] at H
                                have c38b0 : ((decide (t361 > 0)) != (decide (x12_20 < t350))) = false := by simpa using c38
                                (try (have c38b1 : decide ((decide (t361 > 0)) = (decide (x12_20 < t350))) = true := by simpa using c38))
                                (try (have c38b2 : ((decide (t361 > 0)) == (decide (x12_20 < t350))) = true := by simpa using c38))
                                clear c38
                                by_cases c43 : ((decide (t366 > 0)) != (decide (x12_20 > t351))) = true
                                · rw [if_pos c43] at H
                                  have c43b0 : ((decide (t366 > 0)) != (decide (x12_20 > t351))) = true := c43
                                  (try (have c43b1 : decide ((decide (t366 > 0)) = (decide (x12_20 > t351))) = false := by simpa using c43))
                                  (try (have c43b2 : ((decide (t366 > 0)) == (decide (x12_20 > t351))) = false := by simpa using c43))
                                  (try (have c43b3 : ¬ ((decide (t366 > 0)) = (decide (x12_20 > t351))) := by simpa using c43))
                                  clear c43
                                  obtain rfl := Option.some.inj H
                                  go_wp2_with (first | ((with_reducible refine gate_callee (f := 23) rfl ?_); refine goesL_ (some 72) rfl rfl Try.func23 (by kernel_rfl) rfl #[.slice Ao14 t347.length co14, .int .i64 x12_20, .bool true] rfl (by (try simp only [List.map_toArray, List.map_cons, List.map_nil]); first | done | rfl | (simp only [List.length_drop, List.length_take]; rfl)) ?_; (with_reducible refine (flagstoneref40_Path.calls kj28 _ _ t347 x12_20 true t357 _ ?side1 ?side2 A32.out).mono ?_); (case side1 => repeat (first | exact (Kd.R_reads' HO_7.out).2.2 | (with_reducible refine Kd.C_alloc ?_ _) | (with_reducible refine Kd.C_drewN ?_ _) | (with_reducible refine Kd.C_drew ?_))); (case side2 => exact (Kd.R_reads' HO_7.out).2.1); rintro e w44 ⟨v358, rfl, ho0, hb⟩; refine ⟨_, rfl, ?_⟩; have n0_ := Aside0.mk (Kd.R_below (by (with_reducible repeat (first | apply Kd.R_alloc | apply Kd.R_drewN | apply Kd.R_drew)); exact HO_7.out) hb); have n1_ := Aside0.mk (Kd.R_lower ho0 (below_size (by repeat (first | (with_reducible first | exact HB.out | apply below_alloc | apply pw_below_drewN | apply below_drew1) | exact HB.out)))); have n2_ := Aside0.mk (below_step (by repeat (first | (with_reducible first | exact HB.out | apply below_alloc | apply pw_below_drewN | apply below_drew1) | exact HB.out)) hb); clear HO_7; clear HB; have HO_7 := n0_; have HO359 := n1_; have HB := n2_; clear n0_ n1_ n2_; (try clear hb); (try clear hb2); (try clear hk); (try clear hi); (try clear ho0)) | ((with_reducible refine gate_callee (f := 24) rfl ?_); refine goesL_ (some 74) rfl rfl Try.func24 (by kernel_rfl) rfl #[.int .i64 (wrap64 (1 + (Int.tmod (wrap64 (a1)) 999))), .int .i64 2] rfl (by (try simp only [List.map_toArray, List.map_cons, List.map_nil]); first | done | rfl | (simp only [List.length_drop, List.length_take]; rfl)) ?_; (with_reducible refine (flagstoneref40_Threshold.calls kj28 (wrap64 (1 + (Int.tmod (wrap64 (a1)) 999))) 2 t360 _ A33.out).mono ?_); rintro e w' ⟨rfl, ⟨nd, rfl⟩⟩; refine ⟨_, rfl, ?_⟩; obtain ⟨Ao45, co45, eo45⟩ := Kd.R_slice HO359.out; subst eo45) | ((with_reducible refine gate_callee (f := 22) rfl ?_); refine goesL_ (some 75) rfl rfl Try.func22 (by kernel_rfl) rfl #[.slice Ao45 t357.length co45, .int .i64 t360] rfl (by (try simp only [List.map_toArray, List.map_cons, List.map_nil]); first | done | rfl | (simp only [List.length_drop, List.length_take]; rfl)) ?_; (with_reducible refine (flagstoneref40_First.calls kj28 _ _ t357 t360 t361 _ ?side1 ?side2 A34.out).mono ?_); (case side1 => repeat (first | exact (Kd.R_reads' HO359.out).2.2 | (with_reducible refine Kd.C_alloc ?_ _) | (with_reducible refine Kd.C_drewN ?_ _) | (with_reducible refine Kd.C_drew ?_))); (case side2 => exact (Kd.R_reads' HO359.out).2.1); rintro e w' ⟨rfl, ⟨nd, rfl⟩⟩; refine ⟨_, rfl, ?_⟩) | ((with_reducible refine gate_callee (f := 23) rfl ?_); refine goesL_ (some 79) rfl rfl Try.func23 (by kernel_rfl) rfl #[.slice Ao14 t347.length co14, .int .i64 x12_20, .bool false] rfl (by (try simp only [List.map_toArray, List.map_cons, List.map_nil]); first | done | rfl | (simp only [List.length_drop, List.length_take]; rfl)) ?_; (with_reducible refine (flagstoneref40_Path.calls kj28 _ _ t347 x12_20 false t362 _ ?side1 ?side2 A35.out).mono ?_); (case side1 => repeat (first | exact (Kd.R_reads' HO_7.out).2.2 | (with_reducible refine Kd.C_alloc ?_ _) | (with_reducible refine Kd.C_drewN ?_ _) | (with_reducible refine Kd.C_drew ?_))); (case side2 => exact (Kd.R_reads' HO_7.out).2.1); rintro e w46 ⟨v363, rfl, ho0, hb⟩; refine ⟨_, rfl, ?_⟩; have n0_ := Aside0.mk (Kd.R_below (by (with_reducible repeat (first | apply Kd.R_alloc | apply Kd.R_drewN | apply Kd.R_drew)); exact HO_7.out) hb); have n1_ := Aside0.mk (Kd.R_elder' (by (with_reducible repeat (first | apply Kd.R_alloc | apply Kd.R_drewN | apply Kd.R_drew)); exact HO359.out) (Kd.R_base ho0) hb); have n2_ := Aside0.mk (Kd.R_lower (Kd.R_new' ho0 (Kd.R_lt (by (with_reducible repeat (first | apply Kd.R_alloc | apply Kd.R_drewN | apply Kd.R_drew)); exact HO359.out))) (below_size (by repeat (first | (with_reducible first | exact HB.out | apply below_alloc | apply pw_below_drewN | apply below_drew1) | exact HB.out)))); have n3_ := Aside0.mk (below_step (by repeat (first | (with_reducible first | exact HB.out | apply below_alloc | apply pw_below_drewN | apply below_drew1) | exact HB.out)) hb); clear HO_7; clear HO359; clear HB; have HO_7 := n0_; have HO359 := n1_; have HO364 := n2_; have HB := n3_; clear n0_ n1_ n2_ n3_; (try clear hb); (try clear hb2); (try clear hk); (try clear hi); (try clear ho0)) | ((with_reducible refine gate_callee (f := 24) rfl ?_); refine goesL_ (some 81) rfl rfl Try.func24 (by kernel_rfl) rfl #[.int .i64 (wrap64 (1 + (Int.tmod (wrap64 (a1)) 999))), .int .i64 2] rfl (by (try simp only [List.map_toArray, List.map_cons, List.map_nil]); first | done | rfl | (simp only [List.length_drop, List.length_take]; rfl)) ?_; (with_reducible refine (flagstoneref40_Threshold.calls kj28 (wrap64 (1 + (Int.tmod (wrap64 (a1)) 999))) 2 t365 _ A36.out).mono ?_); rintro e w' ⟨rfl, ⟨nd, rfl⟩⟩; refine ⟨_, rfl, ?_⟩; obtain ⟨Ao47, co47, eo47⟩ := Kd.R_slice HO364.out; subst eo47) | ((with_reducible refine gate_callee (f := 22) rfl ?_); refine goesL_ (some 82) rfl rfl Try.func22 (by kernel_rfl) rfl #[.slice Ao47 t362.length co47, .int .i64 t365] rfl (by (try simp only [List.map_toArray, List.map_cons, List.map_nil]); first | done | rfl | (simp only [List.length_drop, List.length_take]; rfl)) ?_; (with_reducible refine (flagstoneref40_First.calls kj28 _ _ t362 t365 t366 _ ?side1 ?side2 A37.out).mono ?_); (case side1 => repeat (first | exact (Kd.R_reads' HO364.out).2.2 | (with_reducible refine Kd.C_alloc ?_ _) | (with_reducible refine Kd.C_drewN ?_ _) | (with_reducible refine Kd.C_drew ?_))); (case side2 => exact (Kd.R_reads' HO364.out).2.1); rintro e w' ⟨rfl, ⟨nd, rfl⟩⟩; refine ⟨_, rfl, ?_⟩))
                                  go_ret
                                  exact ⟨by first | rfl | (simp [errW_none, errW_some] <;> rfl) | (simp only [← hji18]; first | rfl | (simp [errW_none, errW_some] <;> rfl)) | (simp [*, errW_none, errW_some] <;> rfl), by repeat (first | (with_reducible first | exact HB.out | apply below_alloc | apply pw_below_drewN | apply below_drew1) | exact HB.out)⟩
                                · rw [if_neg c43] at H
                                  have c43b0 : ((decide (t366 > 0)) != (decide (x12_20 > t351))) = false := by simpa using c43
                                  (try (have c43b1 : decide ((decide (t366 > 0)) = (decide (x12_20 > t351))) = true := by simpa using c43))
                                  (try (have c43b2 : ((decide (t366 > 0)) == (decide (x12_20 > t351))) = true := by simpa using c43))
                                  clear c43
                                  have H' := Aside0.mk H
                                  clear H
                                  go_wp2_with (first | ((with_reducible refine gate_callee (f := 23) rfl ?_); refine goesL_ (some 72) rfl rfl Try.func23 (by kernel_rfl) rfl #[.slice Ao14 t347.length co14, .int .i64 x12_20, .bool true] rfl (by (try simp only [List.map_toArray, List.map_cons, List.map_nil]); first | done | rfl | (simp only [List.length_drop, List.length_take]; rfl)) ?_; (with_reducible refine (flagstoneref40_Path.calls kj28 _ _ t347 x12_20 true t357 _ ?side1 ?side2 A32.out).mono ?_); (case side1 => repeat (first | exact (Kd.R_reads' HO_7.out).2.2 | (with_reducible refine Kd.C_alloc ?_ _) | (with_reducible refine Kd.C_drewN ?_ _) | (with_reducible refine Kd.C_drew ?_))); (case side2 => exact (Kd.R_reads' HO_7.out).2.1); rintro e w48 ⟨v358, rfl, ho0, hb⟩; refine ⟨_, rfl, ?_⟩; have n0_ := Aside0.mk (Kd.R_below (by (with_reducible repeat (first | apply Kd.R_alloc | apply Kd.R_drewN | apply Kd.R_drew)); exact HO_7.out) hb); have n1_ := Aside0.mk (Kd.R_lower ho0 (below_size (by repeat (first | (with_reducible first | exact HB.out | apply below_alloc | apply pw_below_drewN | apply below_drew1) | exact HB.out)))); have n2_ := Aside0.mk (below_step (by repeat (first | (with_reducible first | exact HB.out | apply below_alloc | apply pw_below_drewN | apply below_drew1) | exact HB.out)) hb); clear HO_7; clear HB; have HO_7 := n0_; have HO359 := n1_; have HB := n2_; clear n0_ n1_ n2_; (try clear hb); (try clear hb2); (try clear hk); (try clear hi); (try clear ho0)) | ((with_reducible refine gate_callee (f := 24) rfl ?_); refine goesL_ (some 74) rfl rfl Try.func24 (by kernel_rfl) rfl #[.int .i64 (wrap64 (1 + (Int.tmod (wrap64 (a1)) 999))), .int .i64 2] rfl (by (try simp only [List.map_toArray, List.map_cons, List.map_nil]); first | done | rfl | (simp only [List.length_drop, List.length_take]; rfl)) ?_; (with_reducible refine (flagstoneref40_Threshold.calls kj28 (wrap64 (1 + (Int.tmod (wrap64 (a1)) 999))) 2 t360 _ A33.out).mono ?_); rintro e w' ⟨rfl, ⟨nd, rfl⟩⟩; refine ⟨_, rfl, ?_⟩; obtain ⟨Ao49, co49, eo49⟩ := Kd.R_slice HO359.out; subst eo49) | ((with_reducible refine gate_callee (f := 22) rfl ?_); refine goesL_ (some 75) rfl rfl Try.func22 (by kernel_rfl) rfl #[.slice Ao49 t357.length co49, .int .i64 t360] rfl (by (try simp only [List.map_toArray, List.map_cons, List.map_nil]); first | done | rfl | (simp only [List.length_drop, List.length_take]; rfl)) ?_; (with_reducible refine (flagstoneref40_First.calls kj28 _ _ t357 t360 t361 _ ?side1 ?side2 A34.out).mono ?_); (case side1 => repeat (first | exact (Kd.R_reads' HO359.out).2.2 | (with_reducible refine Kd.C_alloc ?_ _) | (with_reducible refine Kd.C_drewN ?_ _) | (with_reducible refine Kd.C_drew ?_))); (case side2 => exact (Kd.R_reads' HO359.out).2.1); rintro e w' ⟨rfl, ⟨nd, rfl⟩⟩; refine ⟨_, rfl, ?_⟩) | ((with_reducible refine gate_callee (f := 23) rfl ?_); refine goesL_ (some 79) rfl rfl Try.func23 (by kernel_rfl) rfl #[.slice Ao14 t347.length co14, .int .i64 x12_20, .bool false] rfl (by (try simp only [List.map_toArray, List.map_cons, List.map_nil]); first | done | rfl | (simp only [List.length_drop, List.length_take]; rfl)) ?_; (with_reducible refine (flagstoneref40_Path.calls kj28 _ _ t347 x12_20 false t362 _ ?side1 ?side2 A35.out).mono ?_); (case side1 => repeat (first | exact (Kd.R_reads' HO_7.out).2.2 | (with_reducible refine Kd.C_alloc ?_ _) | (with_reducible refine Kd.C_drewN ?_ _) | (with_reducible refine Kd.C_drew ?_))); (case side2 => exact (Kd.R_reads' HO_7.out).2.1); rintro e w50 ⟨v363, rfl, ho0, hb⟩; refine ⟨_, rfl, ?_⟩; have n0_ := Aside0.mk (Kd.R_below (by (with_reducible repeat (first | apply Kd.R_alloc | apply Kd.R_drewN | apply Kd.R_drew)); exact HO_7.out) hb); have n1_ := Aside0.mk (Kd.R_elder' (by (with_reducible repeat (first | apply Kd.R_alloc | apply Kd.R_drewN | apply Kd.R_drew)); exact HO359.out) (Kd.R_base ho0) hb); have n2_ := Aside0.mk (Kd.R_lower (Kd.R_new' ho0 (Kd.R_lt (by (with_reducible repeat (first | apply Kd.R_alloc | apply Kd.R_drewN | apply Kd.R_drew)); exact HO359.out))) (below_size (by repeat (first | (with_reducible first | exact HB.out | apply below_alloc | apply pw_below_drewN | apply below_drew1) | exact HB.out)))); have n3_ := Aside0.mk (below_step (by repeat (first | (with_reducible first | exact HB.out | apply below_alloc | apply pw_below_drewN | apply below_drew1) | exact HB.out)) hb); clear HO_7; clear HO359; clear HB; have HO_7 := n0_; have HO359 := n1_; have HO364 := n2_; have HB := n3_; clear n0_ n1_ n2_ n3_; (try clear hb); (try clear hb2); (try clear hk); (try clear hi); (try clear ho0)) | ((with_reducible refine gate_callee (f := 24) rfl ?_); refine goesL_ (some 81) rfl rfl Try.func24 (by kernel_rfl) rfl #[.int .i64 (wrap64 (1 + (Int.tmod (wrap64 (a1)) 999))), .int .i64 2] rfl (by (try simp only [List.map_toArray, List.map_cons, List.map_nil]); first | done | rfl | (simp only [List.length_drop, List.length_take]; rfl)) ?_; (with_reducible refine (flagstoneref40_Threshold.calls kj28 (wrap64 (1 + (Int.tmod (wrap64 (a1)) 999))) 2 t365 _ A36.out).mono ?_); rintro e w' ⟨rfl, ⟨nd, rfl⟩⟩; refine ⟨_, rfl, ?_⟩; obtain ⟨Ao51, co51, eo51⟩ := Kd.R_slice HO364.out; subst eo51) | ((with_reducible refine gate_callee (f := 22) rfl ?_); refine goesL_ (some 82) rfl rfl Try.func22 (by kernel_rfl) rfl #[.slice Ao51 t362.length co51, .int .i64 t365] rfl (by (try simp only [List.map_toArray, List.map_cons, List.map_nil]); first | done | rfl | (simp only [List.length_drop, List.length_take]; rfl)) ?_; (with_reducible refine (flagstoneref40_First.calls kj28 _ _ t362 t365 t366 _ ?side1 ?side2 A37.out).mono ?_); (case side1 => repeat (first | exact (Kd.R_reads' HO364.out).2.2 | (with_reducible refine Kd.C_alloc ?_ _) | (with_reducible refine Kd.C_drewN ?_ _) | (with_reducible refine Kd.C_drew ?_))); (case side2 => exact (Kd.R_reads' HO364.out).2.1); rintro e w' ⟨rfl, ⟨nd, rfl⟩⟩; refine ⟨_, rfl, ?_⟩))
                                  go_roundg kj28
                                  case measure => have := HJ5.out; have := HK2.out; have := HJ20.out; have := HJ28.out; omega
                                  case rel => exact ⟨(wrap64 (x11_2 + 1)), (by first | rfl | (simp; done) | (simp [*]; done) | exact congrArg (Value.int _) (by unfold wrap64; omega)), H', ⟨by have := HJ5.out; have := HK2.out; have := HJ20.out; have := HJ28.out; omega⟩, ⟨by (with_reducible repeat (first | apply Kd.R_alloc | apply Kd.R_drewN | apply Kd.R_drew)); exact HO_7.out⟩, ⟨by repeat (first | (with_reducible first | exact HB.out | apply below_alloc | apply pw_below_drewN | apply below_drew1) | exact HB.out)⟩⟩
                  · rw [if_neg c20] at H
                    exact absurd H (by simp)
                · rw [if_neg c19] at H
                  exact absurd H (by simp)
              · rw [if_neg c17] at H
                have c17b0 : decide (x11_2 < (wrap64 ((l2.length : Int) + 4))) = false := decide_eq_false c17
                clear c17
                obtain rfl := Option.some.inj H
                go_wp2
                go_ret
                exact ⟨by first | rfl | (simp [errW_none, errW_some] <;> rfl) | (simp [*, errW_none, errW_some] <;> rfl), by repeat (first | (with_reducible first | exact HB.out | apply below_alloc | apply pw_below_drewN | apply below_drew1) | exact HB.out)⟩
  · replace c5 := Bool.eq_false_iff.mpr c5
    subst c5
    have H1 : (some false) = some r := by rw [if_neg (show ¬ (false = true) by decide)] at H; exact H
    clear H
    have H := H1
    clear H1
    obtain rfl := Option.some.inj H
    go_enter Try.func6, Try.ntmps6
    go_wp2_with (first | ((with_reducible refine gate_callee (f := 10) rfl ?_); refine goesL_ (some 15) rfl rfl Try.func10 (by kernel_rfl) rfl #[] rfl (by (try simp only [List.map_toArray, List.map_cons, List.map_nil]); first | done | rfl | (simp only [List.length_drop, List.length_take]; rfl)) ?_; (with_reducible refine (flagstonelaw41_awake.calls k  false _ A4.out).mono ?_); rintro e w52 ⟨rfl, hb⟩; refine ⟨_, rfl, ?_⟩; have n0_ := Aside0.mk (below_step (by repeat (first | (with_reducible first | exact HB.out | apply below_alloc | apply pw_below_drewN | apply below_drew1) | exact HB.out)) hb); clear HB; have HB := n0_; clear n0_; (try clear hb); (try clear hb2); (try clear hk); (try clear hi)))
    go_ret
    exact ⟨by first | rfl | (simp [errW_none, errW_some] <;> rfl) | (simp [*, errW_none, errW_some] <;> rfl), by repeat (first | (with_reducible first | exact HB.out | apply below_alloc | apply pw_below_drewN | apply below_drew1) | exact HB.out)⟩

/-- THE ONE PURE STATEMENT of flagstonelaw41_SequenceExcludes: yours. -/
def flagstonelaw41_SequenceExcludes.Pure : Prop := ∀ (l0 : List Int) (a1 : Int) (l2 : List Int), l0.length ≤ maxLen → l0.length * 1 ≤ 140737488351232 → (∀ x ∈ l0, (Lit.int .u8 x).wf = true) → (Lit.int .u16 a1).wf = true → l2.length ≤ maxLen → l2.length * 2 ≤ 140737488351232 → (∀ x ∈ l2, (Lit.int .i16 x).wf = true) → ∃ k, flagstonelaw41_SequenceExcludes.f k l0 a1 l2 = some true
theorem flagstonelaw41_SequenceExcludes.walk (P : flagstonelaw41_SequenceExcludes.Pure) (a0 : Option Addr) (len0 cap0 : Nat) (z0 : List Int) (a1 : Int) (a2 : Option Addr) (len2 cap2 : Nat) (z2 : List Int) (w : World) (w0 : (a0 = none ∧ len0 = 0 ∧ cap0 = 0 ∧ z0 = []) ∨ ∃ x, a0 = some x ∧ len0 ≤ cap0 ∧ cap0 ≤ maxLen ∧ z0.length = cap0 ∧ (∀ i, i < z0.length → w.cell? (x.add i) = some (.int .u8 (z0.getD i 0))) ∧ ∀ n ∈ z0, (Lit.int .u8 n).wf = true) (y0 : len0 * 1 ≤ 140737488351232) (w1 : (Lit.int .u16 a1).wf = true) (w2 : (a2 = none ∧ len2 = 0 ∧ cap2 = 0 ∧ z2 = []) ∨ ∃ x, a2 = some x ∧ len2 ≤ cap2 ∧ cap2 ≤ maxLen ∧ z2.length = cap2 ∧ (∀ i, i < z2.length → w.cell? (x.add i) = some (.int .i16 (z2.getD i 0))) ∧ ∀ n ∈ z2, (Lit.int .i16 n).wf = true) (y2 : len2 * 2 ≤ 140737488351232) :
    Calls Try.prog 6 #[.slice a0 len0 cap0, .int .u16 a1, .slice a2 len2 cap2] w fun e w' => e = .returned (.bool true) ∧ Below w.heap.size w w' := by
  obtain ⟨l0, rfl, hr0, hm0, hw0, hc0⟩ := ReadsInt.ofRowC w0
  obtain ⟨l2, rfl, hr2, hm2, hw2, hc2⟩ := ReadsInt.ofRowC w2
  obtain ⟨k, h⟩ := P l0 a1 l2 hm0 y0 hw0 w1 hm2 y2 hw2
  refine (flagstonelaw41_SequenceExcludes.calls k _ _ l0 a1 _ _ l2 true w (Kd.C_of_reads (d := (0 : Int)) (h1 := fun _ => rfl) hr0) hc0 (Kd.C_of_reads (d := (0 : Int)) (h1 := fun _ => rfl) hr2) hc2 h).mono ?_
  rintro e w' ⟨rfl, hd⟩
  exact ⟨rfl, hd⟩

end Go.Proofs.Ytdclcdaoidbgbaa.PA
