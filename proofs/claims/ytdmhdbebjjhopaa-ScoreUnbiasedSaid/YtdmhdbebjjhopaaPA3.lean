-- Written by a program of this seat's session (wip/tools/ownprint.py, over the kit's printer) out of the translation: functions and their contracts.
import Derived.Test.YtdmhdbebjjhopaaPA0
import Derived.Test.YtdmhdbebjjhopaaPA2
namespace Go.Proofs.Ytdmhdbebjjhopaa.PA
open Go.RowKit Go.Proofs.YtdmhdbebjjhopaaW.PrintWords Go.Proofs.YtdmhdbebjjhopaaW.PrintLast Go.Proofs.YtdmhdbebjjhopaaW.PrintMore
attribute [local go_sem] max2_int min2_int max_two min_two max_three min_three max_four min_four   -- for this text's walks alone
set_option linter.unusedVariables false
set_option linter.unusedSimpArgs false

/-! ### score_Predict: function 15 -/
mutual
def score_Predict.j0 : Nat → List (S34) → Int → Int → Int → Bool → Option (Int)
  | 0, _, _, _, _, _ => none
  | k + 1, x0, x1, x2, x3, x23 => if x23 = true then (some 0) else (if 0 ≤ x1 then (if x1 < (x0.length : Int) then ((score_Class.f k ((rd_T34 x0 x1).f3)).bind fun t104 => (score_Predict.l0 k x0 x1 x2 x3 t104 0 true false)) else (none)) else (none))
def score_Predict.l0 : Nat → List (S34) → Int → Int → Int → Int → Int → Bool → Bool → Option (Int)
  | 0, _, _, _, _, _, _, _, _ => none
  | k + 1, x0, x1, x2, x3, x9, x31, x500, x501 => if x31 < 2 then (if x31 = 0 then (score_Predict.j2 k x0 x1 x2 x3 x9 x500 x31 x500 x501) else (if x31 = 1 then (score_Predict.j2 k x0 x1 x2 x3 x9 x501 x31 x500 x501) else (none))) else ((score_floor.f x3 2).bind fun t105 => (some t105))
def score_Predict.j2 : Nat → List (S34) → Int → Int → Int → Int → Bool → Int → Bool → Bool → Option (Int)
  | 0, _, _, _, _, _, _, _, _, _ => none
  | k + 1, x0, x1, x2, x3, x9, x11, x31, x500, x501 => if 0 ≤ x1 then (if x1 ≤ (x0.length : Int) then ((some (x0.take (x1 : Int).toNat : List (S34))).bind fun y106 => (score_Predict.l1 k x0 x1 x2 x3 x9 x11 0 0 x31 y106 (y106.length : Int) 0 x500 x501)) else (none)) else (none)
def score_Predict.l1 : Nat → List (S34) → Int → Int → Int → Int → Bool → Int → Int → Int → List (S34) → Int → Int → Bool → Bool → Option (Int)
  | 0, _, _, _, _, _, _, _, _, _, _, _, _, _, _ => none
  | k + 1, x0, x1, x2, x3, x9, x11, x12, x13, x31, x36, x37, x38, x500, x501 => if x38 < x37 then (if 0 ≤ x38 then (if x38 < (x36.length : Int) then (if ((rd_T34 x36 x38).f0.f4) = x2 then (if x11 = true then ((score_Class.f k ((rd_T34 x36 x38).f3)).bind fun t112 => (score_Predict.j4 k x0 x1 x2 x3 x9 x11 x12 x13 x31 x36 x37 x38 (t112 == x9) x500 x501 ((rd_T34 x36 x38).f0.f0) ((rd_T34 x36 x38).f0.f1) ((rd_T34 x36 x38).f0.f2) ((rd_T34 x36 x38).f0.f3) ((rd_T34 x36 x38).f0.f4) ((rd_T34 x36 x38).f0.f5) ((rd_T34 x36 x38).f1) ((rd_T34 x36 x38).f2) ((rd_T34 x36 x38).f3) ((rd_T34 x36 x38).f4))) else (score_Predict.j4 k x0 x1 x2 x3 x9 x11 x12 x13 x31 x36 x37 x38 true x500 x501 ((rd_T34 x36 x38).f0.f0) ((rd_T34 x36 x38).f0.f1) ((rd_T34 x36 x38).f0.f2) ((rd_T34 x36 x38).f0.f3) ((rd_T34 x36 x38).f0.f4) ((rd_T34 x36 x38).f0.f5) ((rd_T34 x36 x38).f1) ((rd_T34 x36 x38).f2) ((rd_T34 x36 x38).f3) ((rd_T34 x36 x38).f4))) else (score_Predict.j4 k x0 x1 x2 x3 x9 x11 x12 x13 x31 x36 x37 x38 false x500 x501 ((rd_T34 x36 x38).f0.f0) ((rd_T34 x36 x38).f0.f1) ((rd_T34 x36 x38).f0.f2) ((rd_T34 x36 x38).f0.f3) ((rd_T34 x36 x38).f0.f4) ((rd_T34 x36 x38).f0.f5) ((rd_T34 x36 x38).f1) ((rd_T34 x36 x38).f2) ((rd_T34 x36 x38).f3) ((rd_T34 x36 x38).f4))) else (none)) else (none)) else (if x12 > 0 then ((score_floor.f x13 x12).bind fun t113 => (some t113)) else (score_Predict.l0 k x0 x1 x2 x3 x9 (wrap64 (x31 + 1)) x500 x501))
def score_Predict.j4 : Nat → List (S34) → Int → Int → Int → Int → Bool → Int → Int → Int → List (S34) → Int → Int → Bool → Bool → Bool → ByteArray → ByteArray → Int → Int → Int → Int → Int → Int → Int → Bool → Option (Int)
  | 0, _, _, _, _, _, _, _, _, _, _, _, _, _, _, _, _, _, _, _, _, _, _, _, _, _ => none
  | k + 1, x0, x1, x2, x3, x9, x11, x12, x13, x31, x36, x37, x38, x57, x500, x501, x112000, x112001, x112002, x112003, x112004, x112005, x112006, x112007, x112008, x112009 => if x57 = true then (score_Predict.l1 k x0 x1 x2 x3 x9 x11 (wrap64 (x12 + 1)) (wrap64 (x13 + x112006)) x31 x36 x37 (wrap64 (x38 + 1)) x500 x501) else (score_Predict.l1 k x0 x1 x2 x3 x9 x11 x12 x13 x31 x36 x37 (wrap64 (x38 + 1)) x500 x501)
end
def score_Predict.f (k : Nat) (l0 : List (S34)) (a1 : Int) (a2 : Int) (a3 : Int) : Option (Int) := if a1 < 0 then (score_Predict.j0 k l0 a1 a2 a3 true) else (score_Predict.j0 k l0 a1 a2 a3 (decide (a1 ≥ (l0.length : Int))))
theorem score_Predict.mono_l : ∀ k, (∀ y0 y1 y2 y3 y4, LeO (score_Predict.j0 k y0 y1 y2 y3 y4) (score_Predict.j0 (k + 1) y0 y1 y2 y3 y4)) ∧ (∀ y0 y1 y2 y3 y4 y5 y6 y7, LeO (score_Predict.l0 k y0 y1 y2 y3 y4 y5 y6 y7) (score_Predict.l0 (k + 1) y0 y1 y2 y3 y4 y5 y6 y7)) ∧ (∀ y0 y1 y2 y3 y4 y5 y6 y7 y8, LeO (score_Predict.j2 k y0 y1 y2 y3 y4 y5 y6 y7 y8) (score_Predict.j2 (k + 1) y0 y1 y2 y3 y4 y5 y6 y7 y8)) ∧ (∀ y0 y1 y2 y3 y4 y5 y6 y7 y8 y9 y10 y11 y12 y13, LeO (score_Predict.l1 k y0 y1 y2 y3 y4 y5 y6 y7 y8 y9 y10 y11 y12 y13) (score_Predict.l1 (k + 1) y0 y1 y2 y3 y4 y5 y6 y7 y8 y9 y10 y11 y12 y13)) ∧ (∀ y0 y1 y2 y3 y4 y5 y6 y7 y8 y9 y10 y11 y12 y13 y14 y15 y16 y17 y18 y19 y20 y21 y22 y23 y24, LeO (score_Predict.j4 k y0 y1 y2 y3 y4 y5 y6 y7 y8 y9 y10 y11 y12 y13 y14 y15 y16 y17 y18 y19 y20 y21 y22 y23 y24) (score_Predict.j4 (k + 1) y0 y1 y2 y3 y4 y5 y6 y7 y8 y9 y10 y11 y12 y13 y14 y15 y16 y17 y18 y19 y20 y21 y22 y23 y24))
  | 0 => ⟨fun _ _ _ _ _ r h => by simp [score_Predict.j0] at h, fun _ _ _ _ _ _ _ _ r h => by simp [score_Predict.l0] at h, fun _ _ _ _ _ _ _ _ _ r h => by simp [score_Predict.j2] at h, fun _ _ _ _ _ _ _ _ _ _ _ _ _ _ r h => by simp [score_Predict.l1] at h, fun _ _ _ _ _ _ _ _ _ _ _ _ _ _ _ _ _ _ _ _ _ _ _ _ _ r h => by simp [score_Predict.j4] at h⟩
  | k + 1 => by
    obtain ⟨ih0, ih1, ih2, ih3, ih4⟩ := score_Predict.mono_l k
    refine ⟨?_, ?_, ?_, ?_, ?_⟩
    · intro y0 y1 y2 y3 y4
      unfold score_Predict.j0
      repeat' first
      | (with_reducible exact ih0 _ _ _ _ _)
      | (with_reducible exact ih1 _ _ _ _ _ _ _ _)
      | (with_reducible exact ih2 _ _ _ _ _ _ _ _ _)
      | (with_reducible exact ih3 _ _ _ _ _ _ _ _ _ _ _ _ _ _)
      | (with_reducible exact ih4 _ _ _ _ _ _ _ _ _ _ _ _ _ _ _ _ _ _ _ _ _ _ _ _ _)
      | (with_reducible exact score_Class.mono _ _)
      | (with_reducible exact LeO.refl _)
      | (with_reducible exact LeO.none _)
      | (with_reducible refine LeO.ite ?_ ?_)
      | (with_reducible refine LeO.bind ?_ (fun _ => ?_))
      | exact ih0 _ _ _ _ _
      | exact ih1 _ _ _ _ _ _ _ _
      | exact ih2 _ _ _ _ _ _ _ _ _
      | exact ih3 _ _ _ _ _ _ _ _ _ _ _ _ _ _
      | exact ih4 _ _ _ _ _ _ _ _ _ _ _ _ _ _ _ _ _ _ _ _ _ _ _ _ _
      | exact score_Class.mono _ _
      | exact LeO.none _
      | refine LeO.ite ?_ ?_
      | refine LeO.bind ?_ (fun _ => ?_)
    · intro y0 y1 y2 y3 y4 y5 y6 y7
      unfold score_Predict.l0
      repeat' first
      | (with_reducible exact ih0 _ _ _ _ _)
      | (with_reducible exact ih1 _ _ _ _ _ _ _ _)
      | (with_reducible exact ih2 _ _ _ _ _ _ _ _ _)
      | (with_reducible exact ih3 _ _ _ _ _ _ _ _ _ _ _ _ _ _)
      | (with_reducible exact ih4 _ _ _ _ _ _ _ _ _ _ _ _ _ _ _ _ _ _ _ _ _ _ _ _ _)
      | (with_reducible exact score_Class.mono _ _)
      | (with_reducible exact LeO.refl _)
      | (with_reducible exact LeO.none _)
      | (with_reducible refine LeO.ite ?_ ?_)
      | (with_reducible refine LeO.bind ?_ (fun _ => ?_))
      | exact ih0 _ _ _ _ _
      | exact ih1 _ _ _ _ _ _ _ _
      | exact ih2 _ _ _ _ _ _ _ _ _
      | exact ih3 _ _ _ _ _ _ _ _ _ _ _ _ _ _
      | exact ih4 _ _ _ _ _ _ _ _ _ _ _ _ _ _ _ _ _ _ _ _ _ _ _ _ _
      | exact score_Class.mono _ _
      | exact LeO.none _
      | refine LeO.ite ?_ ?_
      | refine LeO.bind ?_ (fun _ => ?_)
    · intro y0 y1 y2 y3 y4 y5 y6 y7 y8
      unfold score_Predict.j2
      repeat' first
      | (with_reducible exact ih0 _ _ _ _ _)
      | (with_reducible exact ih1 _ _ _ _ _ _ _ _)
      | (with_reducible exact ih2 _ _ _ _ _ _ _ _ _)
      | (with_reducible exact ih3 _ _ _ _ _ _ _ _ _ _ _ _ _ _)
      | (with_reducible exact ih4 _ _ _ _ _ _ _ _ _ _ _ _ _ _ _ _ _ _ _ _ _ _ _ _ _)
      | (with_reducible exact score_Class.mono _ _)
      | (with_reducible exact LeO.refl _)
      | (with_reducible exact LeO.none _)
      | (with_reducible refine LeO.ite ?_ ?_)
      | (with_reducible refine LeO.bind ?_ (fun _ => ?_))
      | exact ih0 _ _ _ _ _
      | exact ih1 _ _ _ _ _ _ _ _
      | exact ih2 _ _ _ _ _ _ _ _ _
      | exact ih3 _ _ _ _ _ _ _ _ _ _ _ _ _ _
      | exact ih4 _ _ _ _ _ _ _ _ _ _ _ _ _ _ _ _ _ _ _ _ _ _ _ _ _
      | exact score_Class.mono _ _
      | exact LeO.none _
      | refine LeO.ite ?_ ?_
      | refine LeO.bind ?_ (fun _ => ?_)
    · intro y0 y1 y2 y3 y4 y5 y6 y7 y8 y9 y10 y11 y12 y13
      unfold score_Predict.l1
      repeat' first
      | (with_reducible exact ih0 _ _ _ _ _)
      | (with_reducible exact ih1 _ _ _ _ _ _ _ _)
      | (with_reducible exact ih2 _ _ _ _ _ _ _ _ _)
      | (with_reducible exact ih3 _ _ _ _ _ _ _ _ _ _ _ _ _ _)
      | (with_reducible exact ih4 _ _ _ _ _ _ _ _ _ _ _ _ _ _ _ _ _ _ _ _ _ _ _ _ _)
      | (with_reducible exact score_Class.mono _ _)
      | (with_reducible exact LeO.refl _)
      | (with_reducible exact LeO.none _)
      | (with_reducible refine LeO.ite ?_ ?_)
      | (with_reducible refine LeO.bind ?_ (fun _ => ?_))
      | exact ih0 _ _ _ _ _
      | exact ih1 _ _ _ _ _ _ _ _
      | exact ih2 _ _ _ _ _ _ _ _ _
      | exact ih3 _ _ _ _ _ _ _ _ _ _ _ _ _ _
      | exact ih4 _ _ _ _ _ _ _ _ _ _ _ _ _ _ _ _ _ _ _ _ _ _ _ _ _
      | exact score_Class.mono _ _
      | exact LeO.none _
      | refine LeO.ite ?_ ?_
      | refine LeO.bind ?_ (fun _ => ?_)
    · intro y0 y1 y2 y3 y4 y5 y6 y7 y8 y9 y10 y11 y12 y13 y14 y15 y16 y17 y18 y19 y20 y21 y22 y23 y24
      unfold score_Predict.j4
      repeat' first
      | (with_reducible exact ih0 _ _ _ _ _)
      | (with_reducible exact ih1 _ _ _ _ _ _ _ _)
      | (with_reducible exact ih2 _ _ _ _ _ _ _ _ _)
      | (with_reducible exact ih3 _ _ _ _ _ _ _ _ _ _ _ _ _ _)
      | (with_reducible exact ih4 _ _ _ _ _ _ _ _ _ _ _ _ _ _ _ _ _ _ _ _ _ _ _ _ _)
      | (with_reducible exact score_Class.mono _ _)
      | (with_reducible exact LeO.refl _)
      | (with_reducible exact LeO.none _)
      | (with_reducible refine LeO.ite ?_ ?_)
      | (with_reducible refine LeO.bind ?_ (fun _ => ?_))
      | exact ih0 _ _ _ _ _
      | exact ih1 _ _ _ _ _ _ _ _
      | exact ih2 _ _ _ _ _ _ _ _ _
      | exact ih3 _ _ _ _ _ _ _ _ _ _ _ _ _ _
      | exact ih4 _ _ _ _ _ _ _ _ _ _ _ _ _ _ _ _ _ _ _ _ _ _ _ _ _
      | exact score_Class.mono _ _
      | exact LeO.none _
      | refine LeO.ite ?_ ?_
      | refine LeO.bind ?_ (fun _ => ?_)
theorem score_Predict.mono : ∀ a0 a1 a2 a3 k, LeO (score_Predict.f k a0 a1 a2 a3) (score_Predict.f (k + 1) a0 a1 a2 a3) := by
  intro a0 a1 a2 a3 k
  obtain ⟨ih0, ih1, ih2, ih3, ih4⟩ := score_Predict.mono_l k
  unfold score_Predict.f
  repeat' first
      | (with_reducible exact ih0 _ _ _ _ _)
      | (with_reducible exact ih1 _ _ _ _ _ _ _ _)
      | (with_reducible exact ih2 _ _ _ _ _ _ _ _ _)
      | (with_reducible exact ih3 _ _ _ _ _ _ _ _ _ _ _ _ _ _)
      | (with_reducible exact ih4 _ _ _ _ _ _ _ _ _ _ _ _ _ _ _ _ _ _ _ _ _ _ _ _ _)
      | (with_reducible exact score_Class.mono _ _)
      | (with_reducible exact LeO.refl _)
      | (with_reducible exact LeO.none _)
      | (with_reducible refine LeO.ite ?_ ?_)
      | (with_reducible refine LeO.bind ?_ (fun _ => ?_))
      | exact ih0 _ _ _ _ _
      | exact ih1 _ _ _ _ _ _ _ _
      | exact ih2 _ _ _ _ _ _ _ _ _
      | exact ih3 _ _ _ _ _ _ _ _ _ _ _ _ _ _
      | exact ih4 _ _ _ _ _ _ _ _ _ _ _ _ _ _ _ _ _ _ _ _ _ _ _ _ _
      | exact score_Class.mono _ _
      | exact LeO.none _
      | refine LeO.ite ?_ ?_
      | refine LeO.bind ?_ (fun _ => ?_)
set_option maxHeartbeats 8000000 in
set_option maxRecDepth 100000 in
theorem score_Predict.calls (k : Nat) (A0 : Option Addr) (c0 : Nat) (l0 : List (S34)) (a1 : Int) (a2 : Int) (a3 : Int) (r : Int) (w : World) (hr0 : Kd.C k34 w A0 l0.length l0) (hc0 : l0.length ≤ c0) (h : score_Predict.f k l0 a1 a2 a3 = some r) :
    Calls Try.prog 15 #[.slice A0 l0.length c0, .int .i64 a1, .int .i64 a2, .int .i64 a3] w fun e w' => e = .returned (.int .i64 r) ∧ Below w.heap.size w w' := by
  have hu61 := Try.underlying61
  have hu34 := Try.underlying34
  have hix61_0 : ∀ (v0_ v1_ : Value) (W_ : World), (Instr.index 61 (.agg #[v0_, v1_]) (.int .i64 0)).run Try.prog W_ = .ok v0_ W_ := fun _ _ _ => by kernel_rfl
  have hix61_1 : ∀ (v0_ v1_ : Value) (W_ : World), (Instr.index 61 (.agg #[v0_, v1_]) (.int .i64 1)).run Try.prog W_ = .ok v1_ W_ := fun _ _ _ => by kernel_rfl
  have HR0 := Aside0.mk hr0
  have HC0 := Aside0.mk hc0
  clear hr0 hc0
  have HB := Aside0.mk (Below.refl w.heap.size w)
  have H : (if a1 < 0 then (score_Predict.j0 k l0 a1 a2 a3 true) else (score_Predict.j0 k l0 a1 a2 a3 (decide (a1 ≥ (l0.length : Int))))) = some r := h
  clear h
  have HC5 := Aside0.mk H
  clear H
  go_enter Try.func15, Try.ntmps15
  go_upto_region 1 with (fail)
  repeat (go_quiet (fail); go_upto_region 1 with (fail))
  go_cut [23] (fun v23 wc => ∃ (kq : Nat) (x23_4 : Bool), v23 = .bool x23_4 ∧ Aside0 (score_Predict.j0 kq l0 a1 a2 a3 x23_4 = some r) ∧ Aside0 (kq ≤ k) ∧ Aside0 (Below w.heap.size w wc))
  case first =>
    have H := HC5.out
    clear HC5
    by_cases c6 : a1 < 0
    · rw [if_pos c6] at H
      have c6b0 : decide (a1 < 0) = true := decide_eq_true c6
      clear c6
      (first | rw [c6b0] | (simp only [i64_w, i32_w]; rw [c6b0]) | skip)
      have H' := Aside0.mk H
      clear H
      go_wp2
      repeat (go_quiet (fail); try go_wp2)
      go_meet
      case rel => exact ⟨_, (true), (by first | rfl | (simp; done) | (simp [*]; done) | exact congrArg (Value.int _) (by unfold wrap64; omega)), H', ⟨by first | omega | exact Nat.le_refl _⟩, ⟨by repeat (first | (with_reducible first | exact HB.out | apply below_alloc | apply pw_below_drewN | apply below_drew1) | exact HB.out)⟩⟩
    · rw [if_neg c6] at H
      have c6b0 : decide (a1 < 0) = false := decide_eq_false c6
      clear c6
      (first | rw [c6b0] | (simp only [i64_w, i32_w]; rw [c6b0]) | skip)
      have H' := Aside0.mk H
      clear H
      go_wp2
      repeat (go_quiet (fail); try go_wp2)
      go_meet
      case rel => exact ⟨_, (decide (a1 ≥ (l0.length : Int))), (by first | rfl | (simp; done) | (simp [*]; done) | exact congrArg (Value.int _) (by unfold wrap64; omega)), H', ⟨by first | omega | exact Nat.le_refl _⟩, ⟨by repeat (first | (with_reducible first | exact HB.out | apply below_alloc | apply pw_below_drewN | apply below_drew1) | exact HB.out)⟩⟩
  case rest =>
    clear HC5
    try clear c1
    try clear p2
    try clear c6
    try clear c6b0
    try clear p6
    obtain ⟨kq, x23_4, rfl, HA, HJ4, HB⟩ := hcut
    cases kq with
    | zero => exact absurd HA.out (by simp [score_Predict.j0])
    | succ kj4 =>
      have H := HA.out
      clear HA
      simp only [score_Predict.j0] at H
      by_cases c7 : x23_4 = true
      · subst c7
        have H1 : (some 0) = some r := by rw [if_pos rfl] at H; exact H
        clear H
        have H := H1
        clear H1
        obtain rfl := Option.some.inj H
        go_wp2
        repeat (go_quiet (fail); try go_wp2)
        go_ret
        exact ⟨by first | rfl | (simp [errW_none, errW_some] <;> rfl) | (simp [*, errW_none, errW_some] <;> rfl), by repeat (first | (with_reducible first | exact HB.out | apply below_alloc | apply pw_below_drewN | apply below_drew1) | exact HB.out)⟩
      · replace c7 := Bool.eq_false_iff.mpr c7
        subst c7
        have H1 : (if 0 ≤ a1 then (if a1 < (l0.length : Int) then ((score_Class.f kj4 ((rd_T34 l0 a1).f3)).bind fun t104 => (score_Predict.l0 kj4 l0 a1 a2 a3 t104 0 true false)) else (none)) else (none)) = some r := by rw [if_neg (show ¬ (false = true) by decide)] at H; exact H
        clear H
        have H := H1
        clear H1
        by_cases c8 : 0 ≤ a1
        · rw [if_pos c8] at H
          have c8b0 : decide (0 ≤ a1) = true := decide_eq_true c8
          clear c8
          by_cases c9 : a1 < (l0.length : Int)
          · rw [if_pos c9] at H
            have c9b0 : decide (a1 < (l0.length : Int)) = true := decide_eq_true c9
            clear c9
            replace H := Option.bind_eq_some_iff.mp H
            obtain ⟨t104, A100, H⟩ := H
            replace H : (score_Predict.l0 kj4 l0 a1 a2 a3 t104 0 true false) = some r := H
            have A10 := Aside0.mk A100
            clear A100
            have H' := Aside0.mk H
            clear H
            have p103 : 0 ≤ (a1 : Int) := of_decide_eq_true (by first | (with_reducible assumption) | assumption)
            have q103 : a1 < (l0.length : Int) := of_decide_eq_true (by first | (with_reducible assumption) | assumption)
            obtain ⟨ad103, e103, hx103_0, hx103_1, hx103_2, hx103_3, hx103_4, hx103_5, hx103_6, hx103_7, hx103_8, hx103_9⟩ := at_T34 HR0.out a1 p103 q103
            cases e103
            replace hx103_0 := (HB.out.cell (World.block_lt_of_cell? w _ hx103_0)).trans hx103_0
            replace hx103_1 := (HB.out.cell (World.block_lt_of_cell? w _ hx103_1)).trans hx103_1
            replace hx103_2 := (HB.out.cell (World.block_lt_of_cell? w _ hx103_2)).trans hx103_2
            replace hx103_3 := (HB.out.cell (World.block_lt_of_cell? w _ hx103_3)).trans hx103_3
            replace hx103_4 := (HB.out.cell (World.block_lt_of_cell? w _ hx103_4)).trans hx103_4
            replace hx103_5 := (HB.out.cell (World.block_lt_of_cell? w _ hx103_5)).trans hx103_5
            replace hx103_6 := (HB.out.cell (World.block_lt_of_cell? w _ hx103_6)).trans hx103_6
            replace hx103_7 := (HB.out.cell (World.block_lt_of_cell? w _ hx103_7)).trans hx103_7
            replace hx103_8 := (HB.out.cell (World.block_lt_of_cell? w _ hx103_8)).trans hx103_8
            replace hx103_9 := (HB.out.cell (World.block_lt_of_cell? w _ hx103_9)).trans hx103_9
            replace p103 := eq_true p103
            replace q103 := eq_true q103
            go_wp2_with (first | (go_at_call 13; (with_reducible refine (score_Class.calls kj4 ((rd_T34 l0 a1).f3) t104 _ A10.out).mono ?_); rintro e w11 ⟨rfl, hb⟩; have n0_ := Aside0.mk (below_step (by repeat (first | (with_reducible first | exact HB.out | apply below_alloc | apply pw_below_drewN | apply below_drew1) | exact HB.out)) hb); clear HB; have HB := n0_; clear n0_; (try clear hb); (try clear hb2); (try clear hk); (try clear hi)))
            repeat (go_quiet (first | (go_at_call 13; (with_reducible refine (score_Class.calls kj4 ((rd_T34 l0 a1).f3) t104 _ A10.out).mono ?_); rintro e w11 ⟨rfl, hb⟩; have n0_ := Aside0.mk (below_step (by repeat (first | (with_reducible first | exact HB.out | apply below_alloc | apply pw_below_drewN | apply below_drew1) | exact HB.out)) hb); clear HB; have HB := n0_; clear n0_; (try clear hb); (try clear hb2); (try clear hk); (try clear hi))); try go_wp2_with (first | (go_at_call 13; (with_reducible refine (score_Class.calls kj4 ((rd_T34 l0 a1).f3) t104 _ A10.out).mono ?_); rintro e w11 ⟨rfl, hb⟩; have n0_ := Aside0.mk (below_step (by repeat (first | (with_reducible first | exact HB.out | apply below_alloc | apply pw_below_drewN | apply below_drew1) | exact HB.out)) hb); clear HB; have HB := n0_; clear n0_; (try clear hb); (try clear hb2); (try clear hk); (try clear hi))))
            go_loopg [31] kj4 (fun kq v31 w' => ∃ (x31_2 : Int), v31 = .int .i64 x31_2 ∧ Aside0 (score_Predict.l0 kq l0 a1 a2 a3 t104 x31_2 true false = some r) ∧ Aside0 (kq ≤ kj4) ∧ Aside0 (Below w.heap.size w w'))
            case atStart => exact ⟨(0), (by first | rfl | (simp; done) | (simp [*]; done) | exact congrArg (Value.int _) (by unfold wrap64; omega)), H', ⟨Nat.le_refl _⟩, ⟨by repeat (first | (with_reducible first | exact HB.out | apply below_alloc | apply pw_below_drewN | apply below_drew1) | exact HB.out)⟩⟩
            case round =>
              clear H'
              try clear c1
              try clear p1
              try clear q1
              try clear hx1
              try clear p2
              try clear c6
              try clear c6b0
              try clear p6
              try clear c7
              try clear c8
              try clear c8b0
              try clear c9
              try clear c9b0
              try clear p10
              try clear q10
              try clear hx10
              try clear hx103_0
              try clear hx103_1
              try clear hx103_2
              try clear hx103_3
              try clear hx103_4
              try clear hx103_5
              try clear hx103_6
              try clear hx103_7
              try clear hx103_8
              try clear hx103_9
              try clear p103
              try clear p2
              try clear p6
              try clear q103
              obtain ⟨x31_2, rfl, HA, HK2, HB⟩ := hrel
              cases gk with
              | zero => exact absurd HA.out (by simp [score_Predict.l0])
              | succ k2 =>
                have H := HA.out
                clear HA
                simp only [score_Predict.l0] at H
                by_cases c12 : x31_2 < 2
                · rw [if_pos c12] at H
                  have c12b0 : decide (x31_2 < 2) = true := decide_eq_true c12
                  clear c12
                  have HC13 := Aside0.mk H
                  clear H
                  go_upto_region 6 with (fail)
                  repeat (go_quiet (fail); go_upto_region 6 with (fail))
                  go_cut [11] (fun v11 wc => ∃ (kq : Nat) (x11_12 : Bool), v11 = .bool x11_12 ∧ Aside0 (score_Predict.j2 kq l0 a1 a2 a3 t104 x11_12 x31_2 true false = some r) ∧ Aside0 (kq ≤ k2) ∧ Aside0 (Below w.heap.size w wc))
                  case first =>
                    have H := HC13.out
                    clear HC13
                    by_cases c14 : x31_2 = 0
                    · subst c14
                      rw [if_pos rfl] at H
                      have H' := Aside0.mk H
                      clear H
                      go_wp2
                      repeat (go_quiet (fail); try go_wp2)
                      go_meet
                      case rel => exact ⟨_, (true), (by first | rfl | (simp; done) | (simp [*]; done) | exact congrArg (Value.int _) (by unfold wrap64; omega)), H', ⟨by have := HJ4.out; have := HK2.out; first | omega | exact Nat.le_refl _⟩, ⟨by repeat (first | (with_reducible first | exact HB.out | apply below_alloc | apply pw_below_drewN | apply below_drew1) | exact HB.out)⟩⟩
                    · rw [if_neg c14] at H
                      clear c14
                      by_cases c15 : x31_2 = 1
                      · subst c15
                        rw [if_pos rfl] at H
                        have H' := Aside0.mk H
                        clear H
                        go_wp2
                        repeat (go_quiet (fail); try go_wp2)
                        go_meet
                        case rel => exact ⟨_, (false), (by first | rfl | (simp; done) | (simp [*]; done) | exact congrArg (Value.int _) (by unfold wrap64; omega)), H', ⟨by have := HJ4.out; have := HK2.out; first | omega | exact Nat.le_refl _⟩, ⟨by repeat (first | (with_reducible first | exact HB.out | apply below_alloc | apply pw_below_drewN | apply below_drew1) | exact HB.out)⟩⟩
                      · rw [if_neg c15] at H
                        exact absurd H (by simp)
                  case rest =>
                    clear HC13
                    try clear c1
                    try clear p1
                    try clear q1
                    try clear hx1
                    try clear p2
                    try clear c6
                    try clear c6b0
                    try clear p6
                    try clear c7
                    try clear c8
                    try clear c8b0
                    try clear c9
                    try clear c9b0
                    try clear p10
                    try clear q10
                    try clear hx10
                    try clear c12
                    try clear c12b0
                    try clear c14
                    try clear c15
                    try clear hx103_0
                    try clear hx103_1
                    try clear hx103_2
                    try clear hx103_3
                    try clear hx103_4
                    try clear hx103_5
                    try clear hx103_6
                    try clear hx103_7
                    try clear hx103_8
                    try clear hx103_9
                    try clear p1
                    try clear p10
                    try clear p103
                    try clear p2
                    try clear p6
                    try clear q1
                    try clear q10
                    try clear q103
                    obtain ⟨kq, x11_12, rfl, HA, HJ12, HB⟩ := hcut
                    cases kq with
                    | zero => exact absurd HA.out (by simp [score_Predict.j2])
                    | succ kj12 =>
                      have H := HA.out
                      clear HA
                      simp only [score_Predict.j2] at H
                      by_cases c16 : 0 ≤ a1
                      · rw [if_pos c16] at H
                        have c16b0 := eq_true c16
                        have c16b1 : decide (0 ≤ a1) = true := decide_eq_true c16
                        clear c16
                        by_cases c17 : a1 ≤ (l0.length : Int)
                        · rw [if_pos c17] at H
                          have c17b0 := eq_true c17
                          have c17b1 : decide (a1 ≤ (l0.length : Int)) = true := decide_eq_true c17
                          clear c17
                          obtain ⟨y106, hy106⟩ : ∃ y_ : List (S34), y_ = (l0.take (a1 : Int).toNat) := ⟨_, rfl⟩
                          replace H : (score_Predict.l1 kj12 l0 a1 a2 a3 t104 x11_12 0 0 x31_2 y106 (y106.length : Int) 0 true false) = some r := by first | (rw [hy106]; with_reducible exact H) | (have H2_ := (Option.bind_some _ _).symm.trans H; rw [hy106]; with_reducible exact H2_) | (have H2_ := (Option.bind_some _ _).symm.trans H; with_reducible exact H2_) | with_reducible exact H | (rw [hy106]; exact H) | exact H
                          have Ny106 := Aside0.mk hy106
                          clear hy106
                          have H' := Aside0.mk H
                          clear H
                          have q18 : (a1 : Int) ≤ ((l0.length : Int) : Int) := of_decide_eq_true (by first | (with_reducible assumption) | assumption)
                          obtain ⟨i018, hi018, _, hsz18, _⟩ := info_parts info34
                          have hroom18 : l0.length ≤ c0 := HC0.out
                          have hC18 : Kd.C k34 _ (some ad103) l0.length l0 := HR0.out
                          have hcut18 := cut_to (P := Try.prog) 25 34 .i64 Try.underlying25 hi018 (some ad103) l0.length c0 a1 (of_decide_eq_true (by first | (with_reducible assumption) | assumption)) q18 hroom18
                          have hr18 := Kd.C_take (m := (a1 : Int).toNat) hC18 (by omega)
                          have hy18 : y106.length = (a1 : Int).toNat := (by rw [Ny106.out, List.length_take]; omega)
                          rw [← Ny106.out] at hr18
                          rw [← hy18] at hcut18
                          have HR109 := Aside0.mk hr18
                          have HC109 := Aside0.mk (show y106.length ≤ c0 from by omega)
                          clear hr18 hC18 hroom18 hi018 hsz18
                          have KY18 := Aside0.mk hy18
                          clear hy18
                          replace q18 := eq_true q18
                          go_wp2
                          repeat (go_quiet (fail); try go_wp2)
                          go_loopg [12, 13, 38] kj12 (fun kq v12 v13 v38 w' => ∃ (x12_4 : Int) (x13_4 : Int) (x38_4 : Int), v12 = .int .i64 x12_4 ∧ v13 = .int .i64 x13_4 ∧ v38 = .int .i64 x38_4 ∧ Aside0 (score_Predict.l1 kq l0 a1 a2 a3 t104 x11_12 x12_4 x13_4 x31_2 y106 (y106.length : Int) x38_4 true false = some r) ∧ Aside0 (kq ≤ kj12) ∧ Aside0 (Below w.heap.size w w'))
                          case atStart => exact ⟨(0), (0), (0), (by first | rfl | (simp; done) | (simp [*]; done) | exact congrArg (Value.int _) (by unfold wrap64; omega)), (by first | rfl | (simp; done) | (simp [*]; done) | exact congrArg (Value.int _) (by unfold wrap64; omega)), (by first | rfl | (simp; done) | (simp [*]; done) | exact congrArg (Value.int _) (by unfold wrap64; omega)), H', ⟨Nat.le_refl _⟩, ⟨by repeat (first | (with_reducible first | exact HB.out | apply below_alloc | apply pw_below_drewN | apply below_drew1) | exact HB.out)⟩⟩
                          case round =>
                            clear H'
                            try clear c1
                            try clear p1
                            try clear q1
                            try clear hx1
                            try clear p2
                            try clear c6
                            try clear c6b0
                            try clear p6
                            try clear c7
                            try clear c8
                            try clear c8b0
                            try clear c9
                            try clear c9b0
                            try clear p10
                            try clear q10
                            try clear hx10
                            try clear c12
                            try clear c12b0
                            try clear c14
                            try clear c15
                            try clear c16
                            try clear c16b0
                            try clear c16b1
                            try clear c17
                            try clear c17b0
                            try clear c17b1
                            try clear q18
                            try clear hx103_0
                            try clear hx103_1
                            try clear hx103_2
                            try clear hx103_3
                            try clear hx103_4
                            try clear hx103_5
                            try clear hx103_6
                            try clear hx103_7
                            try clear hx103_8
                            try clear hx103_9
                            try clear p1
                            try clear p10
                            try clear p103
                            try clear p2
                            try clear p6
                            try clear q1
                            try clear q10
                            try clear q103
                            try clear q18
                            obtain ⟨x12_4, x13_4, x38_4, rfl, rfl, rfl, HA, HK4, HB⟩ := hrel
                            cases gk with
                            | zero => exact absurd HA.out (by simp [score_Predict.l1])
                            | succ k4 =>
                              have H := HA.out
                              clear HA
                              simp only [score_Predict.l1] at H
                              by_cases c19 : x38_4 < (y106.length : Int)
                              · rw [if_pos c19] at H
                                have c19b0 : decide (x38_4 < (y106.length : Int)) = true := decide_eq_true c19
                                clear c19
                                by_cases c20 : 0 ≤ x38_4
                                · rw [if_pos c20] at H
                                  have c20b0 : decide (0 ≤ x38_4) = true := decide_eq_true c20
                                  clear c20
                                  by_cases c21 : x38_4 < (y106.length : Int)
                                  · rw [if_pos c21] at H
                                    have c21b0 : decide (x38_4 < (y106.length : Int)) = true := decide_eq_true c21
                                    clear c21
                                    have HC22 := Aside0.mk H
                                    clear H
                                    have p110 : 0 ≤ (x38_4 : Int) := of_decide_eq_true (by first | (with_reducible assumption) | assumption)
                                    have q110 : x38_4 < (y106.length : Int) := of_decide_eq_true (by first | (with_reducible assumption) | assumption)
                                    obtain ⟨ad110, e110, hx110_0, hx110_1, hx110_2, hx110_3, hx110_4, hx110_5, hx110_6, hx110_7, hx110_8, hx110_9⟩ := at_T34 HR109.out x38_4 p110 q110
                                    obtain rfl : ad103 = ad110 := (by injection e110)
                                    replace hx110_0 := (HB.out.cell (World.block_lt_of_cell? w _ hx110_0)).trans hx110_0
                                    replace hx110_1 := (HB.out.cell (World.block_lt_of_cell? w _ hx110_1)).trans hx110_1
                                    replace hx110_2 := (HB.out.cell (World.block_lt_of_cell? w _ hx110_2)).trans hx110_2
                                    replace hx110_3 := (HB.out.cell (World.block_lt_of_cell? w _ hx110_3)).trans hx110_3
                                    replace hx110_4 := (HB.out.cell (World.block_lt_of_cell? w _ hx110_4)).trans hx110_4
                                    replace hx110_5 := (HB.out.cell (World.block_lt_of_cell? w _ hx110_5)).trans hx110_5
                                    replace hx110_6 := (HB.out.cell (World.block_lt_of_cell? w _ hx110_6)).trans hx110_6
                                    replace hx110_7 := (HB.out.cell (World.block_lt_of_cell? w _ hx110_7)).trans hx110_7
                                    replace hx110_8 := (HB.out.cell (World.block_lt_of_cell? w _ hx110_8)).trans hx110_8
                                    replace hx110_9 := (HB.out.cell (World.block_lt_of_cell? w _ hx110_9)).trans hx110_9
                                    replace p110 := eq_true p110
                                    replace q110 := eq_true q110
                                    go_upto_region 11 with (first | ((with_reducible refine gate_dst (N := 15) rfl ?_); (try (refine gate_guard (by rfl) ?_; dsimp only)); refine box_event ?hg (N := 15) ?hd (cs := #[.string (⟨#[]⟩ : ByteArray), .string (⟨#[]⟩ : ByteArray), .int .i64 0, .int .i64 0, .int .i64 0, .int .i64 0, .int .i64 0, .int .i64 0, .int .i64 0, .bool false]) (t := 34) ?hr ?_; (case hd => rfl); (case hg => rfl); (case hr => first | (go_simp; done) | (go_simp; rfl)); intro gb111 hg w23 hbox hb; have n0_ := Aside0.mk (below_step (by repeat (first | (with_reducible first | exact HB.out | apply below_alloc | apply pw_below_drewN | apply below_drew1) | exact HB.out)) hb); have n1_ := Aside0.mk (hbox); have n2_ := Aside0.mk ((by rw [hg]; exact (below_size (by repeat (first | (with_reducible first | exact HB.out | apply below_alloc | apply pw_below_drewN | apply below_drew1) | exact HB.out))) : w.heap.size ≤ gb111)); have n3_ := Aside0.mk ((by rw [hg]; exact (below_size (by repeat (first | (with_reducible first | exact HB.out | apply below_alloc | apply pw_below_drewN | apply below_drew1) | exact HB.out))) : w.heap.size ≤ gb111)); clear HB; have HB := n0_; have BK111 := n1_; have GW111 := n2_; have GE111 := n3_; clear n0_ n1_ n2_ n3_; clear hb hbox hg; have hcz24_0 : w23.cell? ⟨gb111, 0, none⟩ = some (.string (⟨#[]⟩ : ByteArray)) := (blk_cell BK111.out 0).trans rfl; have hcz24_1 : w23.cell? ⟨gb111, 1, none⟩ = some (.string (⟨#[]⟩ : ByteArray)) := (blk_cell BK111.out 1).trans rfl; have hcz24_2 : w23.cell? ⟨gb111, 2, none⟩ = some (.int .i64 0) := (blk_cell BK111.out 2).trans rfl; have hcz24_3 : w23.cell? ⟨gb111, 3, none⟩ = some (.int .i64 0) := (blk_cell BK111.out 3).trans rfl; have hcz24_4 : w23.cell? ⟨gb111, 4, none⟩ = some (.int .i64 0) := (blk_cell BK111.out 4).trans rfl; have hcz24_5 : w23.cell? ⟨gb111, 5, none⟩ = some (.int .i64 0) := (blk_cell BK111.out 5).trans rfl; have hcz24_6 : w23.cell? ⟨gb111, 6, none⟩ = some (.int .i64 0) := (blk_cell BK111.out 6).trans rfl; have hcz24_7 : w23.cell? ⟨gb111, 7, none⟩ = some (.int .i64 0) := (blk_cell BK111.out 7).trans rfl; have hcz24_8 : w23.cell? ⟨gb111, 8, none⟩ = some (.int .i64 0) := (blk_cell BK111.out 8).trans rfl; have hcz24_9 : w23.cell? ⟨gb111, 9, none⟩ = some (.bool false) := (blk_cell BK111.out 9).trans rfl; have hfz24_0 := blk_frozen BK111.out 0; have hfz24_1 := blk_frozen BK111.out 1; have hfz24_2 := blk_frozen BK111.out 2; have hfz24_3 := blk_frozen BK111.out 3; have hfz24_4 := blk_frozen BK111.out 4; have hfz24_5 := blk_frozen BK111.out 5; have hfz24_6 := blk_frozen BK111.out 6; have hfz24_7 := blk_frozen BK111.out 7; have hfz24_8 := blk_frozen BK111.out 8; have hfz24_9 := blk_frozen BK111.out 9))
                                    repeat (go_quiet (first | ((with_reducible refine gate_dst (N := 15) rfl ?_); (try (refine gate_guard (by rfl) ?_; dsimp only)); refine box_event ?hg (N := 15) ?hd (cs := #[.string (⟨#[]⟩ : ByteArray), .string (⟨#[]⟩ : ByteArray), .int .i64 0, .int .i64 0, .int .i64 0, .int .i64 0, .int .i64 0, .int .i64 0, .int .i64 0, .bool false]) (t := 34) ?hr ?_; (case hd => rfl); (case hg => rfl); (case hr => first | (go_simp; done) | (go_simp; rfl)); intro gb111 hg w23 hbox hb; have n0_ := Aside0.mk (below_step (by repeat (first | (with_reducible first | exact HB.out | apply below_alloc | apply pw_below_drewN | apply below_drew1) | exact HB.out)) hb); have n1_ := Aside0.mk (hbox); have n2_ := Aside0.mk ((by rw [hg]; exact (below_size (by repeat (first | (with_reducible first | exact HB.out | apply below_alloc | apply pw_below_drewN | apply below_drew1) | exact HB.out))) : w.heap.size ≤ gb111)); have n3_ := Aside0.mk ((by rw [hg]; exact (below_size (by repeat (first | (with_reducible first | exact HB.out | apply below_alloc | apply pw_below_drewN | apply below_drew1) | exact HB.out))) : w.heap.size ≤ gb111)); clear HB; have HB := n0_; have BK111 := n1_; have GW111 := n2_; have GE111 := n3_; clear n0_ n1_ n2_ n3_; clear hb hbox hg; have hcz24_0 : w23.cell? ⟨gb111, 0, none⟩ = some (.string (⟨#[]⟩ : ByteArray)) := (blk_cell BK111.out 0).trans rfl; have hcz24_1 : w23.cell? ⟨gb111, 1, none⟩ = some (.string (⟨#[]⟩ : ByteArray)) := (blk_cell BK111.out 1).trans rfl; have hcz24_2 : w23.cell? ⟨gb111, 2, none⟩ = some (.int .i64 0) := (blk_cell BK111.out 2).trans rfl; have hcz24_3 : w23.cell? ⟨gb111, 3, none⟩ = some (.int .i64 0) := (blk_cell BK111.out 3).trans rfl; have hcz24_4 : w23.cell? ⟨gb111, 4, none⟩ = some (.int .i64 0) := (blk_cell BK111.out 4).trans rfl; have hcz24_5 : w23.cell? ⟨gb111, 5, none⟩ = some (.int .i64 0) := (blk_cell BK111.out 5).trans rfl; have hcz24_6 : w23.cell? ⟨gb111, 6, none⟩ = some (.int .i64 0) := (blk_cell BK111.out 6).trans rfl; have hcz24_7 : w23.cell? ⟨gb111, 7, none⟩ = some (.int .i64 0) := (blk_cell BK111.out 7).trans rfl; have hcz24_8 : w23.cell? ⟨gb111, 8, none⟩ = some (.int .i64 0) := (blk_cell BK111.out 8).trans rfl; have hcz24_9 : w23.cell? ⟨gb111, 9, none⟩ = some (.bool false) := (blk_cell BK111.out 9).trans rfl; have hfz24_0 := blk_frozen BK111.out 0; have hfz24_1 := blk_frozen BK111.out 1; have hfz24_2 := blk_frozen BK111.out 2; have hfz24_3 := blk_frozen BK111.out 3; have hfz24_4 := blk_frozen BK111.out 4; have hfz24_5 := blk_frozen BK111.out 5; have hfz24_6 := blk_frozen BK111.out 6; have hfz24_7 := blk_frozen BK111.out 7; have hfz24_8 := blk_frozen BK111.out 8; have hfz24_9 := blk_frozen BK111.out 9)); go_upto_region 11 with (first | ((with_reducible refine gate_dst (N := 15) rfl ?_); (try (refine gate_guard (by rfl) ?_; dsimp only)); refine box_event ?hg (N := 15) ?hd (cs := #[.string (⟨#[]⟩ : ByteArray), .string (⟨#[]⟩ : ByteArray), .int .i64 0, .int .i64 0, .int .i64 0, .int .i64 0, .int .i64 0, .int .i64 0, .int .i64 0, .bool false]) (t := 34) ?hr ?_; (case hd => rfl); (case hg => rfl); (case hr => first | (go_simp; done) | (go_simp; rfl)); intro gb111 hg w23 hbox hb; have n0_ := Aside0.mk (below_step (by repeat (first | (with_reducible first | exact HB.out | apply below_alloc | apply pw_below_drewN | apply below_drew1) | exact HB.out)) hb); have n1_ := Aside0.mk (hbox); have n2_ := Aside0.mk ((by rw [hg]; exact (below_size (by repeat (first | (with_reducible first | exact HB.out | apply below_alloc | apply pw_below_drewN | apply below_drew1) | exact HB.out))) : w.heap.size ≤ gb111)); have n3_ := Aside0.mk ((by rw [hg]; exact (below_size (by repeat (first | (with_reducible first | exact HB.out | apply below_alloc | apply pw_below_drewN | apply below_drew1) | exact HB.out))) : w.heap.size ≤ gb111)); clear HB; have HB := n0_; have BK111 := n1_; have GW111 := n2_; have GE111 := n3_; clear n0_ n1_ n2_ n3_; clear hb hbox hg; have hcz24_0 : w23.cell? ⟨gb111, 0, none⟩ = some (.string (⟨#[]⟩ : ByteArray)) := (blk_cell BK111.out 0).trans rfl; have hcz24_1 : w23.cell? ⟨gb111, 1, none⟩ = some (.string (⟨#[]⟩ : ByteArray)) := (blk_cell BK111.out 1).trans rfl; have hcz24_2 : w23.cell? ⟨gb111, 2, none⟩ = some (.int .i64 0) := (blk_cell BK111.out 2).trans rfl; have hcz24_3 : w23.cell? ⟨gb111, 3, none⟩ = some (.int .i64 0) := (blk_cell BK111.out 3).trans rfl; have hcz24_4 : w23.cell? ⟨gb111, 4, none⟩ = some (.int .i64 0) := (blk_cell BK111.out 4).trans rfl; have hcz24_5 : w23.cell? ⟨gb111, 5, none⟩ = some (.int .i64 0) := (blk_cell BK111.out 5).trans rfl; have hcz24_6 : w23.cell? ⟨gb111, 6, none⟩ = some (.int .i64 0) := (blk_cell BK111.out 6).trans rfl; have hcz24_7 : w23.cell? ⟨gb111, 7, none⟩ = some (.int .i64 0) := (blk_cell BK111.out 7).trans rfl; have hcz24_8 : w23.cell? ⟨gb111, 8, none⟩ = some (.int .i64 0) := (blk_cell BK111.out 8).trans rfl; have hcz24_9 : w23.cell? ⟨gb111, 9, none⟩ = some (.bool false) := (blk_cell BK111.out 9).trans rfl; have hfz24_0 := blk_frozen BK111.out 0; have hfz24_1 := blk_frozen BK111.out 1; have hfz24_2 := blk_frozen BK111.out 2; have hfz24_3 := blk_frozen BK111.out 3; have hfz24_4 := blk_frozen BK111.out 4; have hfz24_5 := blk_frozen BK111.out 5; have hfz24_6 := blk_frozen BK111.out 6; have hfz24_7 := blk_frozen BK111.out 7; have hfz24_8 := blk_frozen BK111.out 8; have hfz24_9 := blk_frozen BK111.out 9)))
                                    (try simp only [Act.put, List.setIfInBounds_toArray, List.set_cons_zero, List.set_cons_succ])
                                    go_cut [57] (fun v57 wc => ∃ (kq : Nat) (x57_21 : Bool), v57 = .bool x57_21 ∧ Aside0 (score_Predict.j4 kq l0 a1 a2 a3 t104 x11_12 x12_4 x13_4 x31_2 y106 (y106.length : Int) x38_4 x57_21 true false ((rd_T34 y106 x38_4).f0.f0) ((rd_T34 y106 x38_4).f0.f1) ((rd_T34 y106 x38_4).f0.f2) ((rd_T34 y106 x38_4).f0.f3) ((rd_T34 y106 x38_4).f0.f4) ((rd_T34 y106 x38_4).f0.f5) ((rd_T34 y106 x38_4).f1) ((rd_T34 y106 x38_4).f2) ((rd_T34 y106 x38_4).f3) ((rd_T34 y106 x38_4).f4) = some r) ∧ Aside0 (kq ≤ k4) ∧ Aside0 (wc.heap[gb111]? = some (.cells #[.string ((rd_T34 y106 x38_4).f0.f0), .string ((rd_T34 y106 x38_4).f0.f1), .int .i64 ((rd_T34 y106 x38_4).f0.f2), .int .i64 ((rd_T34 y106 x38_4).f0.f3), .int .i64 ((rd_T34 y106 x38_4).f0.f4), .int .i64 ((rd_T34 y106 x38_4).f0.f5), .int .i64 ((rd_T34 y106 x38_4).f1), .int .i64 ((rd_T34 y106 x38_4).f2), .int .i64 ((rd_T34 y106 x38_4).f3), .bool ((rd_T34 y106 x38_4).f4)] 34 (0, 0))) ∧ Aside0 (Below w.heap.size w wc))
                                    case first =>
                                      have H := HC22.out
                                      clear HC22
                                      by_cases c25 : ((rd_T34 y106 x38_4).f0.f4) = a2
                                      · rw [if_pos c25] at H
                                        have c25b0 : (((rd_T34 y106 x38_4).f0.f4) == a2) = true := beq_iff_eq.mpr c25
                                        have c25b1 : (((rd_T34 y106 x38_4).f0.f4) != a2) = false := bne_eq_false_iff_eq.mpr c25
                                        clear c25
                                        (first | rw [c25b0] | (simp only [i64_w, i32_w]; rw [c25b0]) | skip)
                                        by_cases c26 : x11_12 = true
                                        · subst c26
                                          have H1 : ((score_Class.f k4 ((rd_T34 y106 x38_4).f3)).bind fun t112 => (score_Predict.j4 k4 l0 a1 a2 a3 t104 true x12_4 x13_4 x31_2 y106 (y106.length : Int) x38_4 (t112 == t104) true false ((rd_T34 y106 x38_4).f0.f0) ((rd_T34 y106 x38_4).f0.f1) ((rd_T34 y106 x38_4).f0.f2) ((rd_T34 y106 x38_4).f0.f3) ((rd_T34 y106 x38_4).f0.f4) ((rd_T34 y106 x38_4).f0.f5) ((rd_T34 y106 x38_4).f1) ((rd_T34 y106 x38_4).f2) ((rd_T34 y106 x38_4).f3) ((rd_T34 y106 x38_4).f4))) = some r := by rw [if_pos rfl] at H; exact H
                                          clear H
                                          have H := H1
                                          clear H1
                                          replace H := Option.bind_eq_some_iff.mp H
                                          obtain ⟨t112, A270, H⟩ := H
                                          replace H : (score_Predict.j4 k4 l0 a1 a2 a3 t104 true x12_4 x13_4 x31_2 y106 (y106.length : Int) x38_4 (t112 == t104) true false ((rd_T34 y106 x38_4).f0.f0) ((rd_T34 y106 x38_4).f0.f1) ((rd_T34 y106 x38_4).f0.f2) ((rd_T34 y106 x38_4).f0.f3) ((rd_T34 y106 x38_4).f0.f4) ((rd_T34 y106 x38_4).f0.f5) ((rd_T34 y106 x38_4).f1) ((rd_T34 y106 x38_4).f2) ((rd_T34 y106 x38_4).f3) ((rd_T34 y106 x38_4).f4)) = some r := H
                                          have A27 := Aside0.mk A270
                                          clear A270
                                          have H' := Aside0.mk H
                                          clear H
                                          have hcz28_0 : w23.cell? ⟨gb111, 0, none⟩ = some (.string (⟨#[]⟩ : ByteArray)) := (blk_cell BK111.out 0).trans rfl
                                          have hcz28_1 : w23.cell? ⟨gb111, 1, none⟩ = some (.string (⟨#[]⟩ : ByteArray)) := (blk_cell BK111.out 1).trans rfl
                                          have hcz28_2 : w23.cell? ⟨gb111, 2, none⟩ = some (.int .i64 0) := (blk_cell BK111.out 2).trans rfl
                                          have hcz28_3 : w23.cell? ⟨gb111, 3, none⟩ = some (.int .i64 0) := (blk_cell BK111.out 3).trans rfl
                                          have hcz28_4 : w23.cell? ⟨gb111, 4, none⟩ = some (.int .i64 0) := (blk_cell BK111.out 4).trans rfl
                                          have hcz28_5 : w23.cell? ⟨gb111, 5, none⟩ = some (.int .i64 0) := (blk_cell BK111.out 5).trans rfl
                                          have hcz28_6 : w23.cell? ⟨gb111, 6, none⟩ = some (.int .i64 0) := (blk_cell BK111.out 6).trans rfl
                                          have hcz28_7 : w23.cell? ⟨gb111, 7, none⟩ = some (.int .i64 0) := (blk_cell BK111.out 7).trans rfl
                                          have hcz28_8 : w23.cell? ⟨gb111, 8, none⟩ = some (.int .i64 0) := (blk_cell BK111.out 8).trans rfl
                                          have hcz28_9 : w23.cell? ⟨gb111, 9, none⟩ = some (.bool false) := (blk_cell BK111.out 9).trans rfl
                                          have hfz28_0 := blk_frozen BK111.out 0
                                          have hfz28_1 := blk_frozen BK111.out 1
                                          have hfz28_2 := blk_frozen BK111.out 2
                                          have hfz28_3 := blk_frozen BK111.out 3
                                          have hfz28_4 := blk_frozen BK111.out 4
                                          have hfz28_5 := blk_frozen BK111.out 5
                                          have hfz28_6 := blk_frozen BK111.out 6
                                          have hfz28_7 := blk_frozen BK111.out 7
                                          have hfz28_8 := blk_frozen BK111.out 8
                                          have hfz28_9 := blk_frozen BK111.out 9
                                          go_wp2_with (first | (go_at_call 13; (with_reducible refine (score_Class.calls k4 ((rd_T34 y106 x38_4).f3) t112 _ A27.out).mono ?_); rintro e w29 ⟨rfl, hb⟩; have n0_ := Aside0.mk (blk_below (g := gb111) (o := .cells #[.string ((rd_T34 y106 x38_4).f0.f0), .string ((rd_T34 y106 x38_4).f0.f1), .int .i64 ((rd_T34 y106 x38_4).f0.f2), .int .i64 ((rd_T34 y106 x38_4).f0.f3), .int .i64 ((rd_T34 y106 x38_4).f0.f4), .int .i64 ((rd_T34 y106 x38_4).f0.f5), .int .i64 ((rd_T34 y106 x38_4).f1), .int .i64 ((rd_T34 y106 x38_4).f2), .int .i64 ((rd_T34 y106 x38_4).f3), .bool ((rd_T34 y106 x38_4).f4)] 34 (0, 0)) (by (with_reducible repeat (first | refine blk_drewN ?_ _ | refine blk_drew ?_ | refine blk_alloc ?_ _)); refine blk_put (cs := #[.string ((rd_T34 y106 x38_4).f0.f0), .string ((rd_T34 y106 x38_4).f0.f1), .int .i64 ((rd_T34 y106 x38_4).f0.f2), .int .i64 ((rd_T34 y106 x38_4).f0.f3), .int .i64 ((rd_T34 y106 x38_4).f0.f4), .int .i64 ((rd_T34 y106 x38_4).f0.f5), .int .i64 ((rd_T34 y106 x38_4).f1), .int .i64 ((rd_T34 y106 x38_4).f2), .int .i64 ((rd_T34 y106 x38_4).f3), .bool false]) ?_ 9 _ rfl; (with_reducible repeat (first | refine blk_drewN ?_ _ | refine blk_drew ?_ | refine blk_alloc ?_ _)); refine blk_put (cs := #[.string ((rd_T34 y106 x38_4).f0.f0), .string ((rd_T34 y106 x38_4).f0.f1), .int .i64 ((rd_T34 y106 x38_4).f0.f2), .int .i64 ((rd_T34 y106 x38_4).f0.f3), .int .i64 ((rd_T34 y106 x38_4).f0.f4), .int .i64 ((rd_T34 y106 x38_4).f0.f5), .int .i64 ((rd_T34 y106 x38_4).f1), .int .i64 ((rd_T34 y106 x38_4).f2), .int .i64 0, .bool false]) ?_ 8 _ rfl; (with_reducible repeat (first | refine blk_drewN ?_ _ | refine blk_drew ?_ | refine blk_alloc ?_ _)); refine blk_put (cs := #[.string ((rd_T34 y106 x38_4).f0.f0), .string ((rd_T34 y106 x38_4).f0.f1), .int .i64 ((rd_T34 y106 x38_4).f0.f2), .int .i64 ((rd_T34 y106 x38_4).f0.f3), .int .i64 ((rd_T34 y106 x38_4).f0.f4), .int .i64 ((rd_T34 y106 x38_4).f0.f5), .int .i64 ((rd_T34 y106 x38_4).f1), .int .i64 0, .int .i64 0, .bool false]) ?_ 7 _ rfl; (with_reducible repeat (first | refine blk_drewN ?_ _ | refine blk_drew ?_ | refine blk_alloc ?_ _)); refine blk_put (cs := #[.string ((rd_T34 y106 x38_4).f0.f0), .string ((rd_T34 y106 x38_4).f0.f1), .int .i64 ((rd_T34 y106 x38_4).f0.f2), .int .i64 ((rd_T34 y106 x38_4).f0.f3), .int .i64 ((rd_T34 y106 x38_4).f0.f4), .int .i64 ((rd_T34 y106 x38_4).f0.f5), .int .i64 0, .int .i64 0, .int .i64 0, .bool false]) ?_ 6 _ rfl; (with_reducible repeat (first | refine blk_drewN ?_ _ | refine blk_drew ?_ | refine blk_alloc ?_ _)); refine blk_put (cs := #[.string ((rd_T34 y106 x38_4).f0.f0), .string ((rd_T34 y106 x38_4).f0.f1), .int .i64 ((rd_T34 y106 x38_4).f0.f2), .int .i64 ((rd_T34 y106 x38_4).f0.f3), .int .i64 ((rd_T34 y106 x38_4).f0.f4), .int .i64 0, .int .i64 0, .int .i64 0, .int .i64 0, .bool false]) ?_ 5 _ rfl; (with_reducible repeat (first | refine blk_drewN ?_ _ | refine blk_drew ?_ | refine blk_alloc ?_ _)); refine blk_put (cs := #[.string ((rd_T34 y106 x38_4).f0.f0), .string ((rd_T34 y106 x38_4).f0.f1), .int .i64 ((rd_T34 y106 x38_4).f0.f2), .int .i64 ((rd_T34 y106 x38_4).f0.f3), .int .i64 0, .int .i64 0, .int .i64 0, .int .i64 0, .int .i64 0, .bool false]) ?_ 4 _ rfl; (with_reducible repeat (first | refine blk_drewN ?_ _ | refine blk_drew ?_ | refine blk_alloc ?_ _)); refine blk_put (cs := #[.string ((rd_T34 y106 x38_4).f0.f0), .string ((rd_T34 y106 x38_4).f0.f1), .int .i64 ((rd_T34 y106 x38_4).f0.f2), .int .i64 0, .int .i64 0, .int .i64 0, .int .i64 0, .int .i64 0, .int .i64 0, .bool false]) ?_ 3 _ rfl; (with_reducible repeat (first | refine blk_drewN ?_ _ | refine blk_drew ?_ | refine blk_alloc ?_ _)); refine blk_put (cs := #[.string ((rd_T34 y106 x38_4).f0.f0), .string ((rd_T34 y106 x38_4).f0.f1), .int .i64 0, .int .i64 0, .int .i64 0, .int .i64 0, .int .i64 0, .int .i64 0, .int .i64 0, .bool false]) ?_ 2 _ rfl; (with_reducible repeat (first | refine blk_drewN ?_ _ | refine blk_drew ?_ | refine blk_alloc ?_ _)); refine blk_put (cs := #[.string ((rd_T34 y106 x38_4).f0.f0), .string (⟨#[]⟩ : ByteArray), .int .i64 0, .int .i64 0, .int .i64 0, .int .i64 0, .int .i64 0, .int .i64 0, .int .i64 0, .bool false]) ?_ 1 _ rfl; (with_reducible repeat (first | refine blk_drewN ?_ _ | refine blk_drew ?_ | refine blk_alloc ?_ _)); refine blk_put (cs := #[.string (⟨#[]⟩ : ByteArray), .string (⟨#[]⟩ : ByteArray), .int .i64 0, .int .i64 0, .int .i64 0, .int .i64 0, .int .i64 0, .int .i64 0, .int .i64 0, .bool false]) ?_ 0 _ rfl; (with_reducible repeat (first | refine blk_drewN ?_ _ | refine blk_drew ?_ | refine blk_alloc ?_ _)); exact BK111.out) hb); have n1_ := Aside0.mk (below_step (by repeat (first | (with_reducible first | exact HB.out | apply below_alloc | apply pw_below_drewN | apply below_drew1 | refine below_set ?_ GE111.out) | exact HB.out)) hb); clear BK111; clear HB; have BK111 := n0_; have HB := n1_; clear n0_ n1_; (try clear hb); (try clear hb2); (try clear hk); (try clear hi)))
                                          repeat (go_quiet (first | (go_at_call 13; (with_reducible refine (score_Class.calls k4 ((rd_T34 y106 x38_4).f3) t112 _ A27.out).mono ?_); rintro e w29 ⟨rfl, hb⟩; have n0_ := Aside0.mk (blk_below (g := gb111) (o := .cells #[.string ((rd_T34 y106 x38_4).f0.f0), .string ((rd_T34 y106 x38_4).f0.f1), .int .i64 ((rd_T34 y106 x38_4).f0.f2), .int .i64 ((rd_T34 y106 x38_4).f0.f3), .int .i64 ((rd_T34 y106 x38_4).f0.f4), .int .i64 ((rd_T34 y106 x38_4).f0.f5), .int .i64 ((rd_T34 y106 x38_4).f1), .int .i64 ((rd_T34 y106 x38_4).f2), .int .i64 ((rd_T34 y106 x38_4).f3), .bool ((rd_T34 y106 x38_4).f4)] 34 (0, 0)) (by (with_reducible repeat (first | refine blk_drewN ?_ _ | refine blk_drew ?_ | refine blk_alloc ?_ _)); refine blk_put (cs := #[.string ((rd_T34 y106 x38_4).f0.f0), .string ((rd_T34 y106 x38_4).f0.f1), .int .i64 ((rd_T34 y106 x38_4).f0.f2), .int .i64 ((rd_T34 y106 x38_4).f0.f3), .int .i64 ((rd_T34 y106 x38_4).f0.f4), .int .i64 ((rd_T34 y106 x38_4).f0.f5), .int .i64 ((rd_T34 y106 x38_4).f1), .int .i64 ((rd_T34 y106 x38_4).f2), .int .i64 ((rd_T34 y106 x38_4).f3), .bool false]) ?_ 9 _ rfl; (with_reducible repeat (first | refine blk_drewN ?_ _ | refine blk_drew ?_ | refine blk_alloc ?_ _)); refine blk_put (cs := #[.string ((rd_T34 y106 x38_4).f0.f0), .string ((rd_T34 y106 x38_4).f0.f1), .int .i64 ((rd_T34 y106 x38_4).f0.f2), .int .i64 ((rd_T34 y106 x38_4).f0.f3), .int .i64 ((rd_T34 y106 x38_4).f0.f4), .int .i64 ((rd_T34 y106 x38_4).f0.f5), .int .i64 ((rd_T34 y106 x38_4).f1), .int .i64 ((rd_T34 y106 x38_4).f2), .int .i64 0, .bool false]) ?_ 8 _ rfl; (with_reducible repeat (first | refine blk_drewN ?_ _ | refine blk_drew ?_ | refine blk_alloc ?_ _)); refine blk_put (cs := #[.string ((rd_T34 y106 x38_4).f0.f0), .string ((rd_T34 y106 x38_4).f0.f1), .int .i64 ((rd_T34 y106 x38_4).f0.f2), .int .i64 ((rd_T34 y106 x38_4).f0.f3), .int .i64 ((rd_T34 y106 x38_4).f0.f4), .int .i64 ((rd_T34 y106 x38_4).f0.f5), .int .i64 ((rd_T34 y106 x38_4).f1), .int .i64 0, .int .i64 0, .bool false]) ?_ 7 _ rfl; (with_reducible repeat (first | refine blk_drewN ?_ _ | refine blk_drew ?_ | refine blk_alloc ?_ _)); refine blk_put (cs := #[.string ((rd_T34 y106 x38_4).f0.f0), .string ((rd_T34 y106 x38_4).f0.f1), .int .i64 ((rd_T34 y106 x38_4).f0.f2), .int .i64 ((rd_T34 y106 x38_4).f0.f3), .int .i64 ((rd_T34 y106 x38_4).f0.f4), .int .i64 ((rd_T34 y106 x38_4).f0.f5), .int .i64 0, .int .i64 0, .int .i64 0, .bool false]) ?_ 6 _ rfl; (with_reducible repeat (first | refine blk_drewN ?_ _ | refine blk_drew ?_ | refine blk_alloc ?_ _)); refine blk_put (cs := #[.string ((rd_T34 y106 x38_4).f0.f0), .string ((rd_T34 y106 x38_4).f0.f1), .int .i64 ((rd_T34 y106 x38_4).f0.f2), .int .i64 ((rd_T34 y106 x38_4).f0.f3), .int .i64 ((rd_T34 y106 x38_4).f0.f4), .int .i64 0, .int .i64 0, .int .i64 0, .int .i64 0, .bool false]) ?_ 5 _ rfl; (with_reducible repeat (first | refine blk_drewN ?_ _ | refine blk_drew ?_ | refine blk_alloc ?_ _)); refine blk_put (cs := #[.string ((rd_T34 y106 x38_4).f0.f0), .string ((rd_T34 y106 x38_4).f0.f1), .int .i64 ((rd_T34 y106 x38_4).f0.f2), .int .i64 ((rd_T34 y106 x38_4).f0.f3), .int .i64 0, .int .i64 0, .int .i64 0, .int .i64 0, .int .i64 0, .bool false]) ?_ 4 _ rfl; (with_reducible repeat (first | refine blk_drewN ?_ _ | refine blk_drew ?_ | refine blk_alloc ?_ _)); refine blk_put (cs := #[.string ((rd_T34 y106 x38_4).f0.f0), .string ((rd_T34 y106 x38_4).f0.f1), .int .i64 ((rd_T34 y106 x38_4).f0.f2), .int .i64 0, .int .i64 0, .int .i64 0, .int .i64 0, .int .i64 0, .int .i64 0, .bool false]) ?_ 3 _ rfl; (with_reducible repeat (first | refine blk_drewN ?_ _ | refine blk_drew ?_ | refine blk_alloc ?_ _)); refine blk_put (cs := #[.string ((rd_T34 y106 x38_4).f0.f0), .string ((rd_T34 y106 x38_4).f0.f1), .int .i64 0, .int .i64 0, .int .i64 0, .int .i64 0, .int .i64 0, .int .i64 0, .int .i64 0, .bool false]) ?_ 2 _ rfl; (with_reducible repeat (first | refine blk_drewN ?_ _ | refine blk_drew ?_ | refine blk_alloc ?_ _)); refine blk_put (cs := #[.string ((rd_T34 y106 x38_4).f0.f0), .string (⟨#[]⟩ : ByteArray), .int .i64 0, .int .i64 0, .int .i64 0, .int .i64 0, .int .i64 0, .int .i64 0, .int .i64 0, .bool false]) ?_ 1 _ rfl; (with_reducible repeat (first | refine blk_drewN ?_ _ | refine blk_drew ?_ | refine blk_alloc ?_ _)); refine blk_put (cs := #[.string (⟨#[]⟩ : ByteArray), .string (⟨#[]⟩ : ByteArray), .int .i64 0, .int .i64 0, .int .i64 0, .int .i64 0, .int .i64 0, .int .i64 0, .int .i64 0, .bool false]) ?_ 0 _ rfl; (with_reducible repeat (first | refine blk_drewN ?_ _ | refine blk_drew ?_ | refine blk_alloc ?_ _)); exact BK111.out) hb); have n1_ := Aside0.mk (below_step (by repeat (first | (with_reducible first | exact HB.out | apply below_alloc | apply pw_below_drewN | apply below_drew1 | refine below_set ?_ GE111.out) | exact HB.out)) hb); clear BK111; clear HB; have BK111 := n0_; have HB := n1_; clear n0_ n1_; (try clear hb); (try clear hb2); (try clear hk); (try clear hi))); try go_wp2_with (first | (go_at_call 13; (with_reducible refine (score_Class.calls k4 ((rd_T34 y106 x38_4).f3) t112 _ A27.out).mono ?_); rintro e w29 ⟨rfl, hb⟩; have n0_ := Aside0.mk (blk_below (g := gb111) (o := .cells #[.string ((rd_T34 y106 x38_4).f0.f0), .string ((rd_T34 y106 x38_4).f0.f1), .int .i64 ((rd_T34 y106 x38_4).f0.f2), .int .i64 ((rd_T34 y106 x38_4).f0.f3), .int .i64 ((rd_T34 y106 x38_4).f0.f4), .int .i64 ((rd_T34 y106 x38_4).f0.f5), .int .i64 ((rd_T34 y106 x38_4).f1), .int .i64 ((rd_T34 y106 x38_4).f2), .int .i64 ((rd_T34 y106 x38_4).f3), .bool ((rd_T34 y106 x38_4).f4)] 34 (0, 0)) (by (with_reducible repeat (first | refine blk_drewN ?_ _ | refine blk_drew ?_ | refine blk_alloc ?_ _)); refine blk_put (cs := #[.string ((rd_T34 y106 x38_4).f0.f0), .string ((rd_T34 y106 x38_4).f0.f1), .int .i64 ((rd_T34 y106 x38_4).f0.f2), .int .i64 ((rd_T34 y106 x38_4).f0.f3), .int .i64 ((rd_T34 y106 x38_4).f0.f4), .int .i64 ((rd_T34 y106 x38_4).f0.f5), .int .i64 ((rd_T34 y106 x38_4).f1), .int .i64 ((rd_T34 y106 x38_4).f2), .int .i64 ((rd_T34 y106 x38_4).f3), .bool false]) ?_ 9 _ rfl; (with_reducible repeat (first | refine blk_drewN ?_ _ | refine blk_drew ?_ | refine blk_alloc ?_ _)); refine blk_put (cs := #[.string ((rd_T34 y106 x38_4).f0.f0), .string ((rd_T34 y106 x38_4).f0.f1), .int .i64 ((rd_T34 y106 x38_4).f0.f2), .int .i64 ((rd_T34 y106 x38_4).f0.f3), .int .i64 ((rd_T34 y106 x38_4).f0.f4), .int .i64 ((rd_T34 y106 x38_4).f0.f5), .int .i64 ((rd_T34 y106 x38_4).f1), .int .i64 ((rd_T34 y106 x38_4).f2), .int .i64 0, .bool false]) ?_ 8 _ rfl; (with_reducible repeat (first | refine blk_drewN ?_ _ | refine blk_drew ?_ | refine blk_alloc ?_ _)); refine blk_put (cs := #[.string ((rd_T34 y106 x38_4).f0.f0), .string ((rd_T34 y106 x38_4).f0.f1), .int .i64 ((rd_T34 y106 x38_4).f0.f2), .int .i64 ((rd_T34 y106 x38_4).f0.f3), .int .i64 ((rd_T34 y106 x38_4).f0.f4), .int .i64 ((rd_T34 y106 x38_4).f0.f5), .int .i64 ((rd_T34 y106 x38_4).f1), .int .i64 0, .int .i64 0, .bool false]) ?_ 7 _ rfl; (with_reducible repeat (first | refine blk_drewN ?_ _ | refine blk_drew ?_ | refine blk_alloc ?_ _)); refine blk_put (cs := #[.string ((rd_T34 y106 x38_4).f0.f0), .string ((rd_T34 y106 x38_4).f0.f1), .int .i64 ((rd_T34 y106 x38_4).f0.f2), .int .i64 ((rd_T34 y106 x38_4).f0.f3), .int .i64 ((rd_T34 y106 x38_4).f0.f4), .int .i64 ((rd_T34 y106 x38_4).f0.f5), .int .i64 0, .int .i64 0, .int .i64 0, .bool false]) ?_ 6 _ rfl; (with_reducible repeat (first | refine blk_drewN ?_ _ | refine blk_drew ?_ | refine blk_alloc ?_ _)); refine blk_put (cs := #[.string ((rd_T34 y106 x38_4).f0.f0), .string ((rd_T34 y106 x38_4).f0.f1), .int .i64 ((rd_T34 y106 x38_4).f0.f2), .int .i64 ((rd_T34 y106 x38_4).f0.f3), .int .i64 ((rd_T34 y106 x38_4).f0.f4), .int .i64 0, .int .i64 0, .int .i64 0, .int .i64 0, .bool false]) ?_ 5 _ rfl; (with_reducible repeat (first | refine blk_drewN ?_ _ | refine blk_drew ?_ | refine blk_alloc ?_ _)); refine blk_put (cs := #[.string ((rd_T34 y106 x38_4).f0.f0), .string ((rd_T34 y106 x38_4).f0.f1), .int .i64 ((rd_T34 y106 x38_4).f0.f2), .int .i64 ((rd_T34 y106 x38_4).f0.f3), .int .i64 0, .int .i64 0, .int .i64 0, .int .i64 0, .int .i64 0, .bool false]) ?_ 4 _ rfl; (with_reducible repeat (first | refine blk_drewN ?_ _ | refine blk_drew ?_ | refine blk_alloc ?_ _)); refine blk_put (cs := #[.string ((rd_T34 y106 x38_4).f0.f0), .string ((rd_T34 y106 x38_4).f0.f1), .int .i64 ((rd_T34 y106 x38_4).f0.f2), .int .i64 0, .int .i64 0, .int .i64 0, .int .i64 0, .int .i64 0, .int .i64 0, .bool false]) ?_ 3 _ rfl; (with_reducible repeat (first | refine blk_drewN ?_ _ | refine blk_drew ?_ | refine blk_alloc ?_ _)); refine blk_put (cs := #[.string ((rd_T34 y106 x38_4).f0.f0), .string ((rd_T34 y106 x38_4).f0.f1), .int .i64 0, .int .i64 0, .int .i64 0, .int .i64 0, .int .i64 0, .int .i64 0, .int .i64 0, .bool false]) ?_ 2 _ rfl; (with_reducible repeat (first | refine blk_drewN ?_ _ | refine blk_drew ?_ | refine blk_alloc ?_ _)); refine blk_put (cs := #[.string ((rd_T34 y106 x38_4).f0.f0), .string (⟨#[]⟩ : ByteArray), .int .i64 0, .int .i64 0, .int .i64 0, .int .i64 0, .int .i64 0, .int .i64 0, .int .i64 0, .bool false]) ?_ 1 _ rfl; (with_reducible repeat (first | refine blk_drewN ?_ _ | refine blk_drew ?_ | refine blk_alloc ?_ _)); refine blk_put (cs := #[.string (⟨#[]⟩ : ByteArray), .string (⟨#[]⟩ : ByteArray), .int .i64 0, .int .i64 0, .int .i64 0, .int .i64 0, .int .i64 0, .int .i64 0, .int .i64 0, .bool false]) ?_ 0 _ rfl; (with_reducible repeat (first | refine blk_drewN ?_ _ | refine blk_drew ?_ | refine blk_alloc ?_ _)); exact BK111.out) hb); have n1_ := Aside0.mk (below_step (by repeat (first | (with_reducible first | exact HB.out | apply below_alloc | apply pw_below_drewN | apply below_drew1 | refine below_set ?_ GE111.out) | exact HB.out)) hb); clear BK111; clear HB; have BK111 := n0_; have HB := n1_; clear n0_ n1_; (try clear hb); (try clear hb2); (try clear hk); (try clear hi))))
                                          go_meet
                                          case rel => exact ⟨_, ((t112 == t104)), (by first | rfl | (simp; done) | (simp [*]; done) | exact congrArg (Value.int _) (by unfold wrap64; omega)), H', ⟨by have := HJ4.out; have := HK2.out; have := HJ12.out; have := HK4.out; first | omega | exact Nat.le_refl _⟩, ⟨by (with_reducible repeat (first | refine blk_drewN ?_ _ | refine blk_drew ?_ | refine blk_alloc ?_ _)); exact BK111.out⟩, ⟨by repeat (first | (with_reducible first | exact HB.out | apply below_alloc | apply pw_below_drewN | apply below_drew1 | refine below_set ?_ GE111.out) | exact HB.out)⟩⟩
                                        · replace c26 := Bool.eq_false_iff.mpr c26
                                          subst c26
                                          have H1 : (score_Predict.j4 k4 l0 a1 a2 a3 t104 false x12_4 x13_4 x31_2 y106 (y106.length : Int) x38_4 true true false ((rd_T34 y106 x38_4).f0.f0) ((rd_T34 y106 x38_4).f0.f1) ((rd_T34 y106 x38_4).f0.f2) ((rd_T34 y106 x38_4).f0.f3) ((rd_T34 y106 x38_4).f0.f4) ((rd_T34 y106 x38_4).f0.f5) ((rd_T34 y106 x38_4).f1) ((rd_T34 y106 x38_4).f2) ((rd_T34 y106 x38_4).f3) ((rd_T34 y106 x38_4).f4)) = some r := by rw [if_neg (show ¬ (false = true) by decide)] at H; exact H
                                          clear H
                                          have H := H1
                                          clear H1
                                          have H' := Aside0.mk H
                                          clear H
                                          have hcz30_0 : w23.cell? ⟨gb111, 0, none⟩ = some (.string (⟨#[]⟩ : ByteArray)) := (blk_cell BK111.out 0).trans rfl
                                          have hcz30_1 : w23.cell? ⟨gb111, 1, none⟩ = some (.string (⟨#[]⟩ : ByteArray)) := (blk_cell BK111.out 1).trans rfl
                                          have hcz30_2 : w23.cell? ⟨gb111, 2, none⟩ = some (.int .i64 0) := (blk_cell BK111.out 2).trans rfl
                                          have hcz30_3 : w23.cell? ⟨gb111, 3, none⟩ = some (.int .i64 0) := (blk_cell BK111.out 3).trans rfl
                                          have hcz30_4 : w23.cell? ⟨gb111, 4, none⟩ = some (.int .i64 0) := (blk_cell BK111.out 4).trans rfl
                                          have hcz30_5 : w23.cell? ⟨gb111, 5, none⟩ = some (.int .i64 0) := (blk_cell BK111.out 5).trans rfl
                                          have hcz30_6 : w23.cell? ⟨gb111, 6, none⟩ = some (.int .i64 0) := (blk_cell BK111.out 6).trans rfl
                                          have hcz30_7 : w23.cell? ⟨gb111, 7, none⟩ = some (.int .i64 0) := (blk_cell BK111.out 7).trans rfl
                                          have hcz30_8 : w23.cell? ⟨gb111, 8, none⟩ = some (.int .i64 0) := (blk_cell BK111.out 8).trans rfl
                                          have hcz30_9 : w23.cell? ⟨gb111, 9, none⟩ = some (.bool false) := (blk_cell BK111.out 9).trans rfl
                                          have hfz30_0 := blk_frozen BK111.out 0
                                          have hfz30_1 := blk_frozen BK111.out 1
                                          have hfz30_2 := blk_frozen BK111.out 2
                                          have hfz30_3 := blk_frozen BK111.out 3
                                          have hfz30_4 := blk_frozen BK111.out 4
                                          have hfz30_5 := blk_frozen BK111.out 5
                                          have hfz30_6 := blk_frozen BK111.out 6
                                          have hfz30_7 := blk_frozen BK111.out 7
                                          have hfz30_8 := blk_frozen BK111.out 8
                                          have hfz30_9 := blk_frozen BK111.out 9
                                          go_wp2
                                          repeat (go_quiet (fail); try go_wp2)
                                          go_meet
                                          case rel => exact ⟨_, (true), (by first | rfl | (simp; done) | (simp [*]; done) | exact congrArg (Value.int _) (by unfold wrap64; omega)), H', ⟨by have := HJ4.out; have := HK2.out; have := HJ12.out; have := HK4.out; first | omega | exact Nat.le_refl _⟩, ⟨by (with_reducible repeat (first | refine blk_drewN ?_ _ | refine blk_drew ?_ | refine blk_alloc ?_ _)); refine blk_put (cs := #[.string ((rd_T34 y106 x38_4).f0.f0), .string ((rd_T34 y106 x38_4).f0.f1), .int .i64 ((rd_T34 y106 x38_4).f0.f2), .int .i64 ((rd_T34 y106 x38_4).f0.f3), .int .i64 ((rd_T34 y106 x38_4).f0.f4), .int .i64 ((rd_T34 y106 x38_4).f0.f5), .int .i64 ((rd_T34 y106 x38_4).f1), .int .i64 ((rd_T34 y106 x38_4).f2), .int .i64 ((rd_T34 y106 x38_4).f3), .bool false]) ?_ 9 _ rfl; (with_reducible repeat (first | refine blk_drewN ?_ _ | refine blk_drew ?_ | refine blk_alloc ?_ _)); refine blk_put (cs := #[.string ((rd_T34 y106 x38_4).f0.f0), .string ((rd_T34 y106 x38_4).f0.f1), .int .i64 ((rd_T34 y106 x38_4).f0.f2), .int .i64 ((rd_T34 y106 x38_4).f0.f3), .int .i64 ((rd_T34 y106 x38_4).f0.f4), .int .i64 ((rd_T34 y106 x38_4).f0.f5), .int .i64 ((rd_T34 y106 x38_4).f1), .int .i64 ((rd_T34 y106 x38_4).f2), .int .i64 0, .bool false]) ?_ 8 _ rfl; (with_reducible repeat (first | refine blk_drewN ?_ _ | refine blk_drew ?_ | refine blk_alloc ?_ _)); refine blk_put (cs := #[.string ((rd_T34 y106 x38_4).f0.f0), .string ((rd_T34 y106 x38_4).f0.f1), .int .i64 ((rd_T34 y106 x38_4).f0.f2), .int .i64 ((rd_T34 y106 x38_4).f0.f3), .int .i64 ((rd_T34 y106 x38_4).f0.f4), .int .i64 ((rd_T34 y106 x38_4).f0.f5), .int .i64 ((rd_T34 y106 x38_4).f1), .int .i64 0, .int .i64 0, .bool false]) ?_ 7 _ rfl; (with_reducible repeat (first | refine blk_drewN ?_ _ | refine blk_drew ?_ | refine blk_alloc ?_ _)); refine blk_put (cs := #[.string ((rd_T34 y106 x38_4).f0.f0), .string ((rd_T34 y106 x38_4).f0.f1), .int .i64 ((rd_T34 y106 x38_4).f0.f2), .int .i64 ((rd_T34 y106 x38_4).f0.f3), .int .i64 ((rd_T34 y106 x38_4).f0.f4), .int .i64 ((rd_T34 y106 x38_4).f0.f5), .int .i64 0, .int .i64 0, .int .i64 0, .bool false]) ?_ 6 _ rfl; (with_reducible repeat (first | refine blk_drewN ?_ _ | refine blk_drew ?_ | refine blk_alloc ?_ _)); refine blk_put (cs := #[.string ((rd_T34 y106 x38_4).f0.f0), .string ((rd_T34 y106 x38_4).f0.f1), .int .i64 ((rd_T34 y106 x38_4).f0.f2), .int .i64 ((rd_T34 y106 x38_4).f0.f3), .int .i64 ((rd_T34 y106 x38_4).f0.f4), .int .i64 0, .int .i64 0, .int .i64 0, .int .i64 0, .bool false]) ?_ 5 _ rfl; (with_reducible repeat (first | refine blk_drewN ?_ _ | refine blk_drew ?_ | refine blk_alloc ?_ _)); refine blk_put (cs := #[.string ((rd_T34 y106 x38_4).f0.f0), .string ((rd_T34 y106 x38_4).f0.f1), .int .i64 ((rd_T34 y106 x38_4).f0.f2), .int .i64 ((rd_T34 y106 x38_4).f0.f3), .int .i64 0, .int .i64 0, .int .i64 0, .int .i64 0, .int .i64 0, .bool false]) ?_ 4 _ rfl; (with_reducible repeat (first | refine blk_drewN ?_ _ | refine blk_drew ?_ | refine blk_alloc ?_ _)); refine blk_put (cs := #[.string ((rd_T34 y106 x38_4).f0.f0), .string ((rd_T34 y106 x38_4).f0.f1), .int .i64 ((rd_T34 y106 x38_4).f0.f2), .int .i64 0, .int .i64 0, .int .i64 0, .int .i64 0, .int .i64 0, .int .i64 0, .bool false]) ?_ 3 _ rfl; (with_reducible repeat (first | refine blk_drewN ?_ _ | refine blk_drew ?_ | refine blk_alloc ?_ _)); refine blk_put (cs := #[.string ((rd_T34 y106 x38_4).f0.f0), .string ((rd_T34 y106 x38_4).f0.f1), .int .i64 0, .int .i64 0, .int .i64 0, .int .i64 0, .int .i64 0, .int .i64 0, .int .i64 0, .bool false]) ?_ 2 _ rfl; (with_reducible repeat (first | refine blk_drewN ?_ _ | refine blk_drew ?_ | refine blk_alloc ?_ _)); refine blk_put (cs := #[.string ((rd_T34 y106 x38_4).f0.f0), .string (⟨#[]⟩ : ByteArray), .int .i64 0, .int .i64 0, .int .i64 0, .int .i64 0, .int .i64 0, .int .i64 0, .int .i64 0, .bool false]) ?_ 1 _ rfl; (with_reducible repeat (first | refine blk_drewN ?_ _ | refine blk_drew ?_ | refine blk_alloc ?_ _)); refine blk_put (cs := #[.string (⟨#[]⟩ : ByteArray), .string (⟨#[]⟩ : ByteArray), .int .i64 0, .int .i64 0, .int .i64 0, .int .i64 0, .int .i64 0, .int .i64 0, .int .i64 0, .bool false]) ?_ 0 _ rfl; (with_reducible repeat (first | refine blk_drewN ?_ _ | refine blk_drew ?_ | refine blk_alloc ?_ _)); exact BK111.out⟩, ⟨by repeat (first | (with_reducible first | exact HB.out | apply below_alloc | apply pw_below_drewN | apply below_drew1 | refine below_set ?_ GE111.out) | exact HB.out)⟩⟩
                                      · rw [if_neg c25] at H
                                        have c25b0 : (((rd_T34 y106 x38_4).f0.f4) == a2) = false := beq_eq_false_iff_ne.mpr c25
                                        have c25b1 : (((rd_T34 y106 x38_4).f0.f4) != a2) = true := bne_iff_ne.mpr c25
                                        (first | rw [c25b0] | (simp only [i64_w, i32_w]; rw [c25b0]) | skip)
                                        have H' := Aside0.mk H
                                        clear H
                                        have hcz31_0 : w23.cell? ⟨gb111, 0, none⟩ = some (.string (⟨#[]⟩ : ByteArray)) := (blk_cell BK111.out 0).trans rfl
                                        have hcz31_1 : w23.cell? ⟨gb111, 1, none⟩ = some (.string (⟨#[]⟩ : ByteArray)) := (blk_cell BK111.out 1).trans rfl
                                        have hcz31_2 : w23.cell? ⟨gb111, 2, none⟩ = some (.int .i64 0) := (blk_cell BK111.out 2).trans rfl
                                        have hcz31_3 : w23.cell? ⟨gb111, 3, none⟩ = some (.int .i64 0) := (blk_cell BK111.out 3).trans rfl
                                        have hcz31_4 : w23.cell? ⟨gb111, 4, none⟩ = some (.int .i64 0) := (blk_cell BK111.out 4).trans rfl
                                        have hcz31_5 : w23.cell? ⟨gb111, 5, none⟩ = some (.int .i64 0) := (blk_cell BK111.out 5).trans rfl
                                        have hcz31_6 : w23.cell? ⟨gb111, 6, none⟩ = some (.int .i64 0) := (blk_cell BK111.out 6).trans rfl
                                        have hcz31_7 : w23.cell? ⟨gb111, 7, none⟩ = some (.int .i64 0) := (blk_cell BK111.out 7).trans rfl
                                        have hcz31_8 : w23.cell? ⟨gb111, 8, none⟩ = some (.int .i64 0) := (blk_cell BK111.out 8).trans rfl
                                        have hcz31_9 : w23.cell? ⟨gb111, 9, none⟩ = some (.bool false) := (blk_cell BK111.out 9).trans rfl
                                        have hfz31_0 := blk_frozen BK111.out 0
                                        have hfz31_1 := blk_frozen BK111.out 1
                                        have hfz31_2 := blk_frozen BK111.out 2
                                        have hfz31_3 := blk_frozen BK111.out 3
                                        have hfz31_4 := blk_frozen BK111.out 4
                                        have hfz31_5 := blk_frozen BK111.out 5
                                        have hfz31_6 := blk_frozen BK111.out 6
                                        have hfz31_7 := blk_frozen BK111.out 7
                                        have hfz31_8 := blk_frozen BK111.out 8
                                        have hfz31_9 := blk_frozen BK111.out 9
                                        go_wp2
                                        repeat (go_quiet (fail); try go_wp2)
                                        go_meet
                                        case rel => exact ⟨_, (false), (by first | rfl | (simp; done) | (simp [*]; done) | exact congrArg (Value.int _) (by unfold wrap64; omega)), H', ⟨by have := HJ4.out; have := HK2.out; have := HJ12.out; have := HK4.out; first | omega | exact Nat.le_refl _⟩, ⟨by (with_reducible repeat (first | refine blk_drewN ?_ _ | refine blk_drew ?_ | refine blk_alloc ?_ _)); refine blk_put (cs := #[.string ((rd_T34 y106 x38_4).f0.f0), .string ((rd_T34 y106 x38_4).f0.f1), .int .i64 ((rd_T34 y106 x38_4).f0.f2), .int .i64 ((rd_T34 y106 x38_4).f0.f3), .int .i64 ((rd_T34 y106 x38_4).f0.f4), .int .i64 ((rd_T34 y106 x38_4).f0.f5), .int .i64 ((rd_T34 y106 x38_4).f1), .int .i64 ((rd_T34 y106 x38_4).f2), .int .i64 ((rd_T34 y106 x38_4).f3), .bool false]) ?_ 9 _ rfl; (with_reducible repeat (first | refine blk_drewN ?_ _ | refine blk_drew ?_ | refine blk_alloc ?_ _)); refine blk_put (cs := #[.string ((rd_T34 y106 x38_4).f0.f0), .string ((rd_T34 y106 x38_4).f0.f1), .int .i64 ((rd_T34 y106 x38_4).f0.f2), .int .i64 ((rd_T34 y106 x38_4).f0.f3), .int .i64 ((rd_T34 y106 x38_4).f0.f4), .int .i64 ((rd_T34 y106 x38_4).f0.f5), .int .i64 ((rd_T34 y106 x38_4).f1), .int .i64 ((rd_T34 y106 x38_4).f2), .int .i64 0, .bool false]) ?_ 8 _ rfl; (with_reducible repeat (first | refine blk_drewN ?_ _ | refine blk_drew ?_ | refine blk_alloc ?_ _)); refine blk_put (cs := #[.string ((rd_T34 y106 x38_4).f0.f0), .string ((rd_T34 y106 x38_4).f0.f1), .int .i64 ((rd_T34 y106 x38_4).f0.f2), .int .i64 ((rd_T34 y106 x38_4).f0.f3), .int .i64 ((rd_T34 y106 x38_4).f0.f4), .int .i64 ((rd_T34 y106 x38_4).f0.f5), .int .i64 ((rd_T34 y106 x38_4).f1), .int .i64 0, .int .i64 0, .bool false]) ?_ 7 _ rfl; (with_reducible repeat (first | refine blk_drewN ?_ _ | refine blk_drew ?_ | refine blk_alloc ?_ _)); refine blk_put (cs := #[.string ((rd_T34 y106 x38_4).f0.f0), .string ((rd_T34 y106 x38_4).f0.f1), .int .i64 ((rd_T34 y106 x38_4).f0.f2), .int .i64 ((rd_T34 y106 x38_4).f0.f3), .int .i64 ((rd_T34 y106 x38_4).f0.f4), .int .i64 ((rd_T34 y106 x38_4).f0.f5), .int .i64 0, .int .i64 0, .int .i64 0, .bool false]) ?_ 6 _ rfl; (with_reducible repeat (first | refine blk_drewN ?_ _ | refine blk_drew ?_ | refine blk_alloc ?_ _)); refine blk_put (cs := #[.string ((rd_T34 y106 x38_4).f0.f0), .string ((rd_T34 y106 x38_4).f0.f1), .int .i64 ((rd_T34 y106 x38_4).f0.f2), .int .i64 ((rd_T34 y106 x38_4).f0.f3), .int .i64 ((rd_T34 y106 x38_4).f0.f4), .int .i64 0, .int .i64 0, .int .i64 0, .int .i64 0, .bool false]) ?_ 5 _ rfl; (with_reducible repeat (first | refine blk_drewN ?_ _ | refine blk_drew ?_ | refine blk_alloc ?_ _)); refine blk_put (cs := #[.string ((rd_T34 y106 x38_4).f0.f0), .string ((rd_T34 y106 x38_4).f0.f1), .int .i64 ((rd_T34 y106 x38_4).f0.f2), .int .i64 ((rd_T34 y106 x38_4).f0.f3), .int .i64 0, .int .i64 0, .int .i64 0, .int .i64 0, .int .i64 0, .bool false]) ?_ 4 _ rfl; (with_reducible repeat (first | refine blk_drewN ?_ _ | refine blk_drew ?_ | refine blk_alloc ?_ _)); refine blk_put (cs := #[.string ((rd_T34 y106 x38_4).f0.f0), .string ((rd_T34 y106 x38_4).f0.f1), .int .i64 ((rd_T34 y106 x38_4).f0.f2), .int .i64 0, .int .i64 0, .int .i64 0, .int .i64 0, .int .i64 0, .int .i64 0, .bool false]) ?_ 3 _ rfl; (with_reducible repeat (first | refine blk_drewN ?_ _ | refine blk_drew ?_ | refine blk_alloc ?_ _)); refine blk_put (cs := #[.string ((rd_T34 y106 x38_4).f0.f0), .string ((rd_T34 y106 x38_4).f0.f1), .int .i64 0, .int .i64 0, .int .i64 0, .int .i64 0, .int .i64 0, .int .i64 0, .int .i64 0, .bool false]) ?_ 2 _ rfl; (with_reducible repeat (first | refine blk_drewN ?_ _ | refine blk_drew ?_ | refine blk_alloc ?_ _)); refine blk_put (cs := #[.string ((rd_T34 y106 x38_4).f0.f0), .string (⟨#[]⟩ : ByteArray), .int .i64 0, .int .i64 0, .int .i64 0, .int .i64 0, .int .i64 0, .int .i64 0, .int .i64 0, .bool false]) ?_ 1 _ rfl; (with_reducible repeat (first | refine blk_drewN ?_ _ | refine blk_drew ?_ | refine blk_alloc ?_ _)); refine blk_put (cs := #[.string (⟨#[]⟩ : ByteArray), .string (⟨#[]⟩ : ByteArray), .int .i64 0, .int .i64 0, .int .i64 0, .int .i64 0, .int .i64 0, .int .i64 0, .int .i64 0, .bool false]) ?_ 0 _ rfl; (with_reducible repeat (first | refine blk_drewN ?_ _ | refine blk_drew ?_ | refine blk_alloc ?_ _)); exact BK111.out⟩, ⟨by repeat (first | (with_reducible first | exact HB.out | apply below_alloc | apply pw_below_drewN | apply below_drew1 | refine below_set ?_ GE111.out) | exact HB.out)⟩⟩
                                    case rest =>
                                      clear HC22
                                      try clear c1
                                      try clear p1
                                      try clear q1
                                      try clear hx1
                                      try clear c2
                                      try clear p2
                                      try clear c6
                                      try clear c6b0
                                      try clear p6
                                      try clear c7
                                      try clear c8
                                      try clear c8b0
                                      try clear c9
                                      try clear c9b0
                                      try clear p10
                                      try clear q10
                                      try clear hx10
                                      try clear p11
                                      try clear q11
                                      try clear hx11
                                      try clear c12
                                      try clear c12b0
                                      try clear c14
                                      try clear c15
                                      try clear c16
                                      try clear c16b0
                                      try clear c16b1
                                      try clear c17
                                      try clear c17b0
                                      try clear c17b1
                                      try clear q18
                                      try clear c19
                                      try clear c19b0
                                      try clear c20
                                      try clear c20b0
                                      try clear c21
                                      try clear c21b0
                                      try clear c25
                                      try clear c25b0
                                      try clear c25b1
                                      try clear c26
                                      try clear hcz24_0
                                      try clear hcz24_1
                                      try clear hcz24_2
                                      try clear hcz24_3
                                      try clear hcz24_4
                                      try clear hcz24_5
                                      try clear hcz24_6
                                      try clear hcz24_7
                                      try clear hcz24_8
                                      try clear hcz24_9
                                      try clear hcz28_0
                                      try clear hcz28_1
                                      try clear hcz28_2
                                      try clear hcz28_3
                                      try clear hcz28_4
                                      try clear hcz28_5
                                      try clear hcz28_6
                                      try clear hcz28_7
                                      try clear hcz28_8
                                      try clear hcz28_9
                                      try clear hcz30_0
                                      try clear hcz30_1
                                      try clear hcz30_2
                                      try clear hcz30_3
                                      try clear hcz30_4
                                      try clear hcz30_5
                                      try clear hcz30_6
                                      try clear hcz30_7
                                      try clear hcz30_8
                                      try clear hcz30_9
                                      try clear hcz31_0
                                      try clear hcz31_1
                                      try clear hcz31_2
                                      try clear hcz31_3
                                      try clear hcz31_4
                                      try clear hcz31_5
                                      try clear hcz31_6
                                      try clear hcz31_7
                                      try clear hcz31_8
                                      try clear hcz31_9
                                      try clear hfz24_0
                                      try clear hfz24_1
                                      try clear hfz24_2
                                      try clear hfz24_3
                                      try clear hfz24_4
                                      try clear hfz24_5
                                      try clear hfz24_6
                                      try clear hfz24_7
                                      try clear hfz24_8
                                      try clear hfz24_9
                                      try clear hfz28_0
                                      try clear hfz28_1
                                      try clear hfz28_2
                                      try clear hfz28_3
                                      try clear hfz28_4
                                      try clear hfz28_5
                                      try clear hfz28_6
                                      try clear hfz28_7
                                      try clear hfz28_8
                                      try clear hfz28_9
                                      try clear hfz30_0
                                      try clear hfz30_1
                                      try clear hfz30_2
                                      try clear hfz30_3
                                      try clear hfz30_4
                                      try clear hfz30_5
                                      try clear hfz30_6
                                      try clear hfz30_7
                                      try clear hfz30_8
                                      try clear hfz30_9
                                      try clear hfz31_0
                                      try clear hfz31_1
                                      try clear hfz31_2
                                      try clear hfz31_3
                                      try clear hfz31_4
                                      try clear hfz31_5
                                      try clear hfz31_6
                                      try clear hfz31_7
                                      try clear hfz31_8
                                      try clear hfz31_9
                                      try clear hx103_0
                                      try clear hx103_1
                                      try clear hx103_2
                                      try clear hx103_3
                                      try clear hx103_4
                                      try clear hx103_5
                                      try clear hx103_6
                                      try clear hx103_7
                                      try clear hx103_8
                                      try clear hx103_9
                                      try clear hx110_0
                                      try clear hx110_1
                                      try clear hx110_2
                                      try clear hx110_3
                                      try clear hx110_4
                                      try clear hx110_5
                                      try clear hx110_6
                                      try clear hx110_7
                                      try clear hx110_8
                                      try clear hx110_9
                                      try clear p1
                                      try clear p10
                                      try clear p103
                                      try clear p110
                                      try clear p2
                                      try clear p6
                                      try clear q1
                                      try clear q10
                                      try clear q103
                                      try clear q110
                                      try clear q18
                                      obtain ⟨kq, x57_21, rfl, HA, HJ21, BK111, HB⟩ := hcut
                                      cases kq with
                                      | zero => exact absurd HA.out (by simp [score_Predict.j4])
                                      | succ kj21 =>
                                        have H := HA.out
                                        clear HA
                                        simp only [score_Predict.j4] at H
                                        by_cases c32 : x57_21 = true
                                        · subst c32
                                          have H1 : (score_Predict.l1 kj21 l0 a1 a2 a3 t104 x11_12 (wrap64 (x12_4 + 1)) (wrap64 (x13_4 + ((rd_T34 y106 x38_4).f1))) x31_2 y106 (y106.length : Int) (wrap64 (x38_4 + 1)) true false) = some r := by rw [if_pos rfl] at H; exact H
                                          clear H
                                          have H := H1
                                          clear H1
                                          have H' := Aside0.mk H
                                          clear H
                                          have hcz33_0 : wc.cell? ⟨gb111, 0, none⟩ = some (.string ((rd_T34 y106 x38_4).f0.f0)) := (blk_cell BK111.out 0).trans rfl
                                          have hcz33_1 : wc.cell? ⟨gb111, 1, none⟩ = some (.string ((rd_T34 y106 x38_4).f0.f1)) := (blk_cell BK111.out 1).trans rfl
                                          have hcz33_2 : wc.cell? ⟨gb111, 2, none⟩ = some (.int .i64 ((rd_T34 y106 x38_4).f0.f2)) := (blk_cell BK111.out 2).trans rfl
                                          have hcz33_3 : wc.cell? ⟨gb111, 3, none⟩ = some (.int .i64 ((rd_T34 y106 x38_4).f0.f3)) := (blk_cell BK111.out 3).trans rfl
                                          have hcz33_4 : wc.cell? ⟨gb111, 4, none⟩ = some (.int .i64 ((rd_T34 y106 x38_4).f0.f4)) := (blk_cell BK111.out 4).trans rfl
                                          have hcz33_5 : wc.cell? ⟨gb111, 5, none⟩ = some (.int .i64 ((rd_T34 y106 x38_4).f0.f5)) := (blk_cell BK111.out 5).trans rfl
                                          have hcz33_6 : wc.cell? ⟨gb111, 6, none⟩ = some (.int .i64 ((rd_T34 y106 x38_4).f1)) := (blk_cell BK111.out 6).trans rfl
                                          have hcz33_7 : wc.cell? ⟨gb111, 7, none⟩ = some (.int .i64 ((rd_T34 y106 x38_4).f2)) := (blk_cell BK111.out 7).trans rfl
                                          have hcz33_8 : wc.cell? ⟨gb111, 8, none⟩ = some (.int .i64 ((rd_T34 y106 x38_4).f3)) := (blk_cell BK111.out 8).trans rfl
                                          have hcz33_9 : wc.cell? ⟨gb111, 9, none⟩ = some (.bool ((rd_T34 y106 x38_4).f4)) := (blk_cell BK111.out 9).trans rfl
                                          have hfz33_0 := blk_frozen BK111.out 0
                                          have hfz33_1 := blk_frozen BK111.out 1
                                          have hfz33_2 := blk_frozen BK111.out 2
                                          have hfz33_3 := blk_frozen BK111.out 3
                                          have hfz33_4 := blk_frozen BK111.out 4
                                          have hfz33_5 := blk_frozen BK111.out 5
                                          have hfz33_6 := blk_frozen BK111.out 6
                                          have hfz33_7 := blk_frozen BK111.out 7
                                          have hfz33_8 := blk_frozen BK111.out 8
                                          have hfz33_9 := blk_frozen BK111.out 9
                                          go_wp2
                                          repeat (go_quiet (fail); try go_wp2)
                                          go_roundg kj21
                                          case measure => have := HJ4.out; have := HK2.out; have := HJ12.out; have := HK4.out; have := HJ21.out; omega
                                          case rel => exact ⟨(wrap64 (x12_4 + 1)), (wrap64 (x13_4 + ((rd_T34 y106 x38_4).f1))), (wrap64 (x38_4 + 1)), (by first | rfl | (simp; done) | (simp [*]; done) | exact congrArg (Value.int _) (by unfold wrap64; omega)), (by first | rfl | (simp; done) | (simp [*]; done) | exact congrArg (Value.int _) (by unfold wrap64; omega)), (by first | rfl | (simp; done) | (simp [*]; done) | exact congrArg (Value.int _) (by unfold wrap64; omega)), H', ⟨by have := HJ4.out; have := HK2.out; have := HJ12.out; have := HK4.out; have := HJ21.out; omega⟩, ⟨by repeat (first | (with_reducible first | exact HB.out | apply below_alloc | apply pw_below_drewN | apply below_drew1 | refine below_set ?_ GE111.out) | exact HB.out)⟩⟩
                                        · replace c32 := Bool.eq_false_iff.mpr c32
                                          subst c32
                                          have H1 : (score_Predict.l1 kj21 l0 a1 a2 a3 t104 x11_12 x12_4 x13_4 x31_2 y106 (y106.length : Int) (wrap64 (x38_4 + 1)) true false) = some r := by rw [if_neg (show ¬ (false = true) by decide)] at H; exact H
                                          clear H
                                          have H := H1
                                          clear H1
                                          have H' := Aside0.mk H
                                          clear H
                                          go_wp2
                                          repeat (go_quiet (fail); try go_wp2)
                                          go_roundg kj21
                                          case measure => have := HJ4.out; have := HK2.out; have := HJ12.out; have := HK4.out; have := HJ21.out; omega
                                          case rel => exact ⟨(x12_4), (x13_4), (wrap64 (x38_4 + 1)), (by first | rfl | (simp; done) | (simp [*]; done) | exact congrArg (Value.int _) (by unfold wrap64; omega)), (by first | rfl | (simp; done) | (simp [*]; done) | exact congrArg (Value.int _) (by unfold wrap64; omega)), (by first | rfl | (simp; done) | (simp [*]; done) | exact congrArg (Value.int _) (by unfold wrap64; omega)), H', ⟨by have := HJ4.out; have := HK2.out; have := HJ12.out; have := HK4.out; have := HJ21.out; omega⟩, ⟨by repeat (first | (with_reducible first | exact HB.out | apply below_alloc | apply pw_below_drewN | apply below_drew1 | refine below_set ?_ GE111.out) | exact HB.out)⟩⟩
                                  · rw [if_neg c21] at H
                                    exact absurd H (by simp)
                                · rw [if_neg c20] at H
                                  exact absurd H (by simp)
                              · rw [if_neg c19] at H
                                have c19b0 : decide (x38_4 < (y106.length : Int)) = false := decide_eq_false c19
                                clear c19
                                by_cases c34 : x12_4 > 0
                                · rw [if_pos c34] at H
                                  have c34b0 : decide (0 < x12_4) = true := decide_eq_true c34
                                  clear c34
                                  replace H := Option.bind_eq_some_iff.mp H
                                  obtain ⟨t113, A350, H⟩ := H
                                  replace H : (some t113) = some r := H
                                  have A35 := Aside0.mk A350
                                  clear A350
                                  obtain rfl := Option.some.inj H
                                  go_wp2_with (first | (go_at_call 29; (with_reducible refine (score_floor.calls x13_4 x12_4 t113 _ A35.out).mono ?_); rintro e w' ⟨rfl, ⟨nd, rfl⟩⟩; (try first | exact ⟨rfl, _, World.drewN_drewN _ _ _⟩ | exact ⟨rfl, _, Eq.trans (World.drewN_drewN _ _ _) (congrArg (World.drewN _) (Nat.add_assoc _ _ _))⟩)))
                                  repeat (go_quiet (first | (go_at_call 29; (with_reducible refine (score_floor.calls x13_4 x12_4 t113 _ A35.out).mono ?_); rintro e w' ⟨rfl, ⟨nd, rfl⟩⟩; (try first | exact ⟨rfl, _, World.drewN_drewN _ _ _⟩ | exact ⟨rfl, _, Eq.trans (World.drewN_drewN _ _ _) (congrArg (World.drewN _) (Nat.add_assoc _ _ _))⟩))); try go_wp2_with (first | (go_at_call 29; (with_reducible refine (score_floor.calls x13_4 x12_4 t113 _ A35.out).mono ?_); rintro e w' ⟨rfl, ⟨nd, rfl⟩⟩; (try first | exact ⟨rfl, _, World.drewN_drewN _ _ _⟩ | exact ⟨rfl, _, Eq.trans (World.drewN_drewN _ _ _) (congrArg (World.drewN _) (Nat.add_assoc _ _ _))⟩))))
                                  go_ret
                                  exact ⟨by first | rfl | (simp [errW_none, errW_some] <;> rfl) | (simp [*, errW_none, errW_some] <;> rfl), by repeat (first | (with_reducible first | exact HB.out | apply below_alloc | apply pw_below_drewN | apply below_drew1) | exact HB.out)⟩
                                · rw [if_neg c34] at H
                                  have c34b0 : decide (0 < x12_4) = false := decide_eq_false c34
                                  clear c34
                                  have H' := Aside0.mk H
                                  clear H
                                  go_wp2
                                  repeat (go_quiet (fail); try go_wp2)
                                  go_roundg k4
                                  case measure => have := HJ4.out; have := HK2.out; have := HJ12.out; have := HK4.out; omega
                                  case rel => exact ⟨(wrap64 (x31_2 + 1)), (by first | rfl | (simp; done) | (simp [*]; done) | exact congrArg (Value.int _) (by unfold wrap64; omega)), H', ⟨by have := HJ4.out; have := HK2.out; have := HJ12.out; have := HK4.out; omega⟩, ⟨by repeat (first | (with_reducible first | exact HB.out | apply below_alloc | apply pw_below_drewN | apply below_drew1) | exact HB.out)⟩⟩
                        · rw [if_neg c17] at H
                          exact absurd H (by simp)
                      · rw [if_neg c16] at H
                        exact absurd H (by simp)
                · rw [if_neg c12] at H
                  have c12b0 : decide (x31_2 < 2) = false := decide_eq_false c12
                  clear c12
                  replace H := Option.bind_eq_some_iff.mp H
                  obtain ⟨t105, A360, H⟩ := H
                  replace H : (some t105) = some r := H
                  have A36 := Aside0.mk A360
                  clear A360
                  obtain rfl := Option.some.inj H
                  go_wp2_with (first | (go_at_call 29; (with_reducible refine (score_floor.calls a3 2 t105 _ A36.out).mono ?_); rintro e w' ⟨rfl, ⟨nd, rfl⟩⟩; (try first | exact ⟨rfl, _, World.drewN_drewN _ _ _⟩ | exact ⟨rfl, _, Eq.trans (World.drewN_drewN _ _ _) (congrArg (World.drewN _) (Nat.add_assoc _ _ _))⟩)))
                  repeat (go_quiet (first | (go_at_call 29; (with_reducible refine (score_floor.calls a3 2 t105 _ A36.out).mono ?_); rintro e w' ⟨rfl, ⟨nd, rfl⟩⟩; (try first | exact ⟨rfl, _, World.drewN_drewN _ _ _⟩ | exact ⟨rfl, _, Eq.trans (World.drewN_drewN _ _ _) (congrArg (World.drewN _) (Nat.add_assoc _ _ _))⟩))); try go_wp2_with (first | (go_at_call 29; (with_reducible refine (score_floor.calls a3 2 t105 _ A36.out).mono ?_); rintro e w' ⟨rfl, ⟨nd, rfl⟩⟩; (try first | exact ⟨rfl, _, World.drewN_drewN _ _ _⟩ | exact ⟨rfl, _, Eq.trans (World.drewN_drewN _ _ _) (congrArg (World.drewN _) (Nat.add_assoc _ _ _))⟩))))
                  go_ret
                  exact ⟨by first | rfl | (simp [errW_none, errW_some] <;> rfl) | (simp [*, errW_none, errW_some] <;> rfl), by repeat (first | (with_reducible first | exact HB.out | apply below_alloc | apply pw_below_drewN | apply below_drew1) | exact HB.out)⟩
          · rw [if_neg c9] at H
            exact absurd H (by simp)
        · rw [if_neg c8] at H
          exact absurd H (by simp)

end Go.Proofs.Ytdmhdbebjjhopaa.PA
