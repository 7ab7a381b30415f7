-- Written by a program of this seat's session (wip/tools/ownprint.py, over the kit's printer) out of the translation: functions and their contracts.
import Derived.Test.YthkgjkmcmkpkcaaPA0
import Derived.Test.YthkgjkmcmkpkcaaPA2
import Derived.Test.YthkgjkmcmkpkcaaPA3
namespace Go.Proofs.Ythkgjkmcmkpkcaa.PA
open Go.RowKit Go.Proofs.YthkgjkmcmkpkcaaW.PrintWords Go.Proofs.YthkgjkmcmkpkcaaW.PrintLast Go.Proofs.YthkgjkmcmkpkcaaW.PrintMore
attribute [local go_sem] max2_int min2_int max_two min_two max_three min_three max_four min_four   -- for this text's walks alone
set_option linter.unusedVariables false
set_option linter.unusedSimpArgs false

/-! ### flagstonelaw42_reaches: function 12 -/
mutual
def flagstonelaw42_reaches.l0 : Nat → Int → List Int → List Int → Int → Int → Int → Int → Option (Int)
  | 0, _, _, _, _, _, _, _ => none
  | k + 1, x0, x1, x2, x3, x4, x11, x12 => if x12 < (x2.length : Int) then (if 0 ≤ x12 then (flagstonelaw42_reaches.l0 k x0 x1 x2 x3 x4 (wrap64 (x11 + (rd x2 x12))) (wrap64 (x12 + 1))) else (none)) else (if x0 ≥ x4 then (flagstonelaw42_reaches.l1 k x3 x11 1 0) else (if x3 = 0 then (some 0) else (flagstonelaw42_reaches.l2 k x0 x1 x2 x3 x4 0 0)))
def flagstonelaw42_reaches.l1 : Nat → Int → Int → Int → Int → Option (Int)
  | 0, _, _, _, _ => none
  | k + 1, x3, x11, x13, x14 => if x14 < x3 then (flagstonelaw42_reaches.l1 k x3 x11 (wrap64 (x13 * x11)) (wrap64 (x14 + 1))) else (some x13)
def flagstonelaw42_reaches.l2 : Nat → Int → List Int → List Int → Int → Int → Int → Int → Option (Int)
  | 0, _, _, _, _, _, _, _ => none
  | k + 1, x0, x1, x2, x3, x4, x15, x16 => if x16 < (x2.length : Int) then ((balance_Step.f k x0 x1 x2 (wrap64 (x16 + 1))).bind fun bt227 => (if 0 ≤ x16 then ((flagstonelaw42_reaches.f k bt227.1 bt227.2 x2 (wrap64 (x3 - 1)) x4).bind fun t232 => (flagstonelaw42_reaches.l2 k x0 x1 x2 x3 x4 (wrap64 (x15 + (wrap64 ((rd x2 x16) * t232)))) (wrap64 (x16 + 1)))) else (none))) else (some x15)
def flagstonelaw42_reaches.f : Nat → Int → List Int → List Int → Int → Int → Option (Int)
  | 0, _, _, _, _, _ => none
  | k + 1, a0, l1, l2, a3, a4 => flagstonelaw42_reaches.l0 k a0 l1 l2 a3 a4 0 0
end
theorem flagstonelaw42_reaches.mono_l : ∀ k, (∀ y0 y1 y2 y3 y4, LeO (flagstonelaw42_reaches.f k y0 y1 y2 y3 y4) (flagstonelaw42_reaches.f (k + 1) y0 y1 y2 y3 y4)) ∧ (∀ y0 y1 y2 y3 y4 y5 y6, LeO (flagstonelaw42_reaches.l0 k y0 y1 y2 y3 y4 y5 y6) (flagstonelaw42_reaches.l0 (k + 1) y0 y1 y2 y3 y4 y5 y6)) ∧ (∀ y0 y1 y2 y3, LeO (flagstonelaw42_reaches.l1 k y0 y1 y2 y3) (flagstonelaw42_reaches.l1 (k + 1) y0 y1 y2 y3)) ∧ (∀ y0 y1 y2 y3 y4 y5 y6, LeO (flagstonelaw42_reaches.l2 k y0 y1 y2 y3 y4 y5 y6) (flagstonelaw42_reaches.l2 (k + 1) y0 y1 y2 y3 y4 y5 y6))
  | 0 => ⟨fun _ _ _ _ _ r h => by simp [flagstonelaw42_reaches.f] at h, fun _ _ _ _ _ _ _ r h => by simp [flagstonelaw42_reaches.l0] at h, fun _ _ _ _ r h => by simp [flagstonelaw42_reaches.l1] at h, fun _ _ _ _ _ _ _ r h => by simp [flagstonelaw42_reaches.l2] at h⟩
  | k + 1 => by
    obtain ⟨ih0, ih1, ih2, ih3⟩ := flagstonelaw42_reaches.mono_l k
    refine ⟨?_, ?_, ?_, ?_⟩
    · intro y0 y1 y2 y3 y4
      unfold flagstonelaw42_reaches.f
      repeat' first
      | (with_reducible exact ih0 _ _ _ _ _)
      | (with_reducible exact ih1 _ _ _ _ _ _ _)
      | (with_reducible exact ih2 _ _ _ _)
      | (with_reducible exact ih3 _ _ _ _ _ _ _)
      | (with_reducible exact balance_Step.mono _ _ _ _ _)
      | (with_reducible exact LeO.refl _)
      | (with_reducible exact LeO.none _)
      | (with_reducible refine LeO.ite ?_ ?_)
      | (with_reducible refine LeO.bind ?_ (fun _ => ?_))
      | exact ih0 _ _ _ _ _
      | exact ih1 _ _ _ _ _ _ _
      | exact ih2 _ _ _ _
      | exact ih3 _ _ _ _ _ _ _
      | exact balance_Step.mono _ _ _ _ _
      | exact LeO.none _
      | refine LeO.ite ?_ ?_
      | refine LeO.bind ?_ (fun _ => ?_)
    · intro y0 y1 y2 y3 y4 y5 y6
      unfold flagstonelaw42_reaches.l0
      repeat' first
      | (with_reducible exact ih0 _ _ _ _ _)
      | (with_reducible exact ih1 _ _ _ _ _ _ _)
      | (with_reducible exact ih2 _ _ _ _)
      | (with_reducible exact ih3 _ _ _ _ _ _ _)
      | (with_reducible exact balance_Step.mono _ _ _ _ _)
      | (with_reducible exact LeO.refl _)
      | (with_reducible exact LeO.none _)
      | (with_reducible refine LeO.ite ?_ ?_)
      | (with_reducible refine LeO.bind ?_ (fun _ => ?_))
      | exact ih0 _ _ _ _ _
      | exact ih1 _ _ _ _ _ _ _
      | exact ih2 _ _ _ _
      | exact ih3 _ _ _ _ _ _ _
      | exact balance_Step.mono _ _ _ _ _
      | exact LeO.none _
      | refine LeO.ite ?_ ?_
      | refine LeO.bind ?_ (fun _ => ?_)
    · intro y0 y1 y2 y3
      unfold flagstonelaw42_reaches.l1
      repeat' first
      | (with_reducible exact ih0 _ _ _ _ _)
      | (with_reducible exact ih1 _ _ _ _ _ _ _)
      | (with_reducible exact ih2 _ _ _ _)
      | (with_reducible exact ih3 _ _ _ _ _ _ _)
      | (with_reducible exact balance_Step.mono _ _ _ _ _)
      | (with_reducible exact LeO.refl _)
      | (with_reducible exact LeO.none _)
      | (with_reducible refine LeO.ite ?_ ?_)
      | (with_reducible refine LeO.bind ?_ (fun _ => ?_))
      | exact ih0 _ _ _ _ _
      | exact ih1 _ _ _ _ _ _ _
      | exact ih2 _ _ _ _
      | exact ih3 _ _ _ _ _ _ _
      | exact balance_Step.mono _ _ _ _ _
      | exact LeO.none _
      | refine LeO.ite ?_ ?_
      | refine LeO.bind ?_ (fun _ => ?_)
    · intro y0 y1 y2 y3 y4 y5 y6
      unfold flagstonelaw42_reaches.l2
      repeat' first
      | (with_reducible exact ih0 _ _ _ _ _)
      | (with_reducible exact ih1 _ _ _ _ _ _ _)
      | (with_reducible exact ih2 _ _ _ _)
      | (with_reducible exact ih3 _ _ _ _ _ _ _)
      | (with_reducible exact balance_Step.mono _ _ _ _ _)
      | (with_reducible exact LeO.refl _)
      | (with_reducible exact LeO.none _)
      | (with_reducible refine LeO.ite ?_ ?_)
      | (with_reducible refine LeO.bind ?_ (fun _ => ?_))
      | exact ih0 _ _ _ _ _
      | exact ih1 _ _ _ _ _ _ _
      | exact ih2 _ _ _ _
      | exact ih3 _ _ _ _ _ _ _
      | exact balance_Step.mono _ _ _ _ _
      | exact LeO.none _
      | refine LeO.ite ?_ ?_
      | refine LeO.bind ?_ (fun _ => ?_)
theorem flagstonelaw42_reaches.mono : ∀ a0 a1 a2 a3 a4 k, LeO (flagstonelaw42_reaches.f k a0 a1 a2 a3 a4) (flagstonelaw42_reaches.f (k + 1) a0 a1 a2 a3 a4) := by
  intro a0 a1 a2 a3 a4 k
  obtain ⟨ih0, ih1, ih2, ih3⟩ := flagstonelaw42_reaches.mono_l k
  exact ih0 a0 a1 a2 a3 a4
def flagstonelaw42_reaches.T20 : Bool × List (List Nat × List Nat) := (true, [([], []), ([], []), ([], []), ([1, 2], [1, 2]), ([3], [3]), ([], []), ([], []), ([], []), ([], []), ([8], [8]), ([], []), ([5, 6, 7, 9, 10], [5, 6, 7, 9, 10]), ([4, 11], [4, 11]), ([0, 12], [0, 12]), ([13, 11, 0, 1, 2, 3, 4, 5, 6, 7, 8, 9, 10, 11, 12, 13], [0, 13])])
def flagstonelaw42_reaches.B20 : List Nat := [0, 0, 0, 6, 14, 0, 0, 0, 0, 256, 0, 2016, 4094, 8191, 16383]
theorem flagstonelaw42_reaches.tab20 : rtab .any (opsOf Try.f12 20) = flagstonelaw42_reaches.T20 := by kernel_rfl
theorem flagstonelaw42_reaches.bits20 : waitsOk flagstonelaw42_reaches.T20.2 flagstonelaw42_reaches.B20 = true := by kernel_rfl
set_option maxHeartbeats 8000000 in
set_option maxRecDepth 100000 in
theorem flagstonelaw42_reaches.calls (k : Nat) : ∀ (a0 : Int) (A1 : Option Addr) (c1 : Nat) (l1 : List Int) (A2 : Option Addr) (c2 : Nat) (l2 : List Int) (a3 : Int) (a4 : Int) (r : Int) (w : World) (hr1 : Kd.C (Kd.int .i64) w A1 l1.length l1) (hc1 : l1.length ≤ c1) (hr2 : Kd.C (Kd.int .i64) w A2 l2.length l2) (hc2 : l2.length ≤ c2) (h : flagstonelaw42_reaches.f k a0 l1 l2 a3 a4 = some r),
    Calls Try.prog 12 #[.int .i64 a0, .slice A1 l1.length c1, .slice A2 l2.length c2, .int .i64 a3, .int .i64 a4] w fun e w' => e = .returned (.int .i64 r) ∧ Below w.heap.size w w' := by
  induction k using Nat.strongRecOn with
  | _ k ih =>
  intro a0 A1 c1 l1 A2 c2 l2 a3 a4 r w hr1 hc1 hr2 hc2 h
  cases k with
  | zero => exact absurd h (by simp [flagstonelaw42_reaches.f])
  | succ k =>
  simp only [flagstonelaw42_reaches.f] at h
  have HR1 := Aside0.mk hr1
  have HC1 := Aside0.mk hc1
  clear hr1 hc1
  have HR2 := Aside0.mk hr2
  have HC2 := Aside0.mk hc2
  clear hr2 hc2
  have HB := Aside0.mk (Below.refl w.heap.size w)
  have H : (flagstonelaw42_reaches.l0 k a0 l1 l2 a3 a4 0 0) = some r := h
  clear h
  have H' := Aside0.mk H
  clear H
  go_enter Try.func12, Try.ntmps12
  go_wp2
  go_loopg [11, 12] k (fun kq v11 v12 w' => ∃ (x11_1 : Int) (x12_1 : Int), v11 = .int .i64 x11_1 ∧ v12 = .int .i64 x12_1 ∧ Aside0 (flagstonelaw42_reaches.l0 kq a0 l1 l2 a3 a4 x11_1 x12_1 = some r) ∧ Aside0 (kq ≤ k) ∧ Aside0 (Below w.heap.size w w'))
  case atStart => exact ⟨(0), (0), (by first | rfl | (simp; done) | (simp [*]; done) | exact congrArg (Value.int _) (by unfold wrap64; omega)), (by first | rfl | (simp; done) | (simp [*]; done) | exact congrArg (Value.int _) (by unfold wrap64; omega)), H', ⟨Nat.le_refl _⟩, ⟨by repeat (first | (with_reducible first | exact HB.out | apply below_alloc | apply pw_below_drewN | apply below_drew1) | exact HB.out)⟩⟩
  case round =>
    clear H'
    try clear c1
    try clear c2
    try clear p2
    obtain ⟨x11_1, x12_1, rfl, rfl, HA, HK1, HB⟩ := hrel
    cases gk with
    | zero => exact absurd HA.out (by simp [flagstonelaw42_reaches.l0])
    | succ k1 =>
      have H := HA.out
      clear HA
      simp only [flagstonelaw42_reaches.l0] at H
      by_cases c6 : x12_1 < (l2.length : Int)
      · rw [if_pos c6] at H
        have c6b0 : decide (x12_1 < (l2.length : Int)) = true := decide_eq_true c6
        clear c6
        by_cases c7 : 0 ≤ x12_1
        · rw [if_pos c7] at H
          have c7b0 : decide (0 ≤ x12_1) = true := decide_eq_true c7
          clear c7
          have H' := Aside0.mk H
          clear H
          have p226 : 0 ≤ (x12_1 : Int) := of_decide_eq_true (by first | (with_reducible assumption) | assumption)
          have q226 : x12_1 < (l2.length : Int) := of_decide_eq_true (by first | (with_reducible assumption) | assumption)
          obtain ⟨ad226, e226, hx226_0⟩ := Kd.at_int HR2.out x12_1 p226 q226
          cases e226
          replace hx226_0 := (HB.out.cell (World.block_lt_of_cell? w _ hx226_0)).trans hx226_0
          replace p226 := eq_true p226
          replace q226 := eq_true q226
          go_wp2
          go_roundg k1
          case measure => have := HK1.out; omega
          case rel => exact ⟨(wrap64 (x11_1 + (rd l2 x12_1))), (wrap64 (x12_1 + 1)), (by first | rfl | (simp; done) | (simp [*]; done) | exact congrArg (Value.int _) (by unfold wrap64; omega)), (by first | rfl | (simp; done) | (simp [*]; done) | exact congrArg (Value.int _) (by unfold wrap64; omega)), H', ⟨by have := HK1.out; omega⟩, ⟨by repeat (first | (with_reducible first | exact HB.out | apply below_alloc | apply pw_below_drewN | apply below_drew1) | exact HB.out)⟩⟩
        · rw [if_neg c7] at H
          exact absurd H (by simp)
      · rw [if_neg c6] at H
        have c6b0 : decide (x12_1 < (l2.length : Int)) = false := decide_eq_false c6
        clear c6
        by_cases c8 : a0 ≥ a4
        · rw [if_pos c8] at H
          have c8b0 : decide (a4 ≤ a0) = true := decide_eq_true c8
          clear c8
          have H' := Aside0.mk H
          clear H
          go_wp2
          go_loopg [13, 14] k1 (fun kq v13 v14 w' => ∃ (x13_2 : Int) (x14_2 : Int), v13 = .int .i64 x13_2 ∧ v14 = .int .i64 x14_2 ∧ Aside0 (flagstonelaw42_reaches.l1 kq a3 x11_1 x13_2 x14_2 = some r) ∧ Aside0 (kq ≤ k1) ∧ Aside0 (Below w.heap.size w w'))
          case atStart => exact ⟨(1), (0), (by first | rfl | (simp; done) | (simp [*]; done) | exact congrArg (Value.int _) (by unfold wrap64; omega)), (by first | rfl | (simp; done) | (simp [*]; done) | exact congrArg (Value.int _) (by unfold wrap64; omega)), H', ⟨Nat.le_refl _⟩, ⟨by repeat (first | (with_reducible first | exact HB.out | apply below_alloc | apply pw_below_drewN | apply below_drew1) | exact HB.out)⟩⟩
          case round =>
            clear H'
            try clear c1
            try clear c2
            try clear p2
            try clear q2
            try clear hx2
            try clear c6
            try clear c6b0
            try clear p6
            try clear c7
            try clear c7b0
            try clear c8
            try clear c8b0
            try clear hx226_0
            try clear p2
            try clear p226
            try clear q226
            obtain ⟨x13_2, x14_2, rfl, rfl, HA, HK2, HB⟩ := hrel
            cases gk with
            | zero => exact absurd HA.out (by simp [flagstonelaw42_reaches.l1])
            | succ k2 =>
              have H := HA.out
              clear HA
              simp only [flagstonelaw42_reaches.l1] at H
              by_cases c9 : x14_2 < a3
              · rw [if_pos c9] at H
                have c9b0 : decide (x14_2 < a3) = true := decide_eq_true c9
                clear c9
                have H' := Aside0.mk H
                clear H
                go_wp2
                go_roundg k2
                case measure => have := HK1.out; have := HK2.out; omega
                case rel => exact ⟨(wrap64 (x13_2 * x11_1)), (wrap64 (x14_2 + 1)), (by first | rfl | (simp; done) | (simp [*]; done) | exact congrArg (Value.int _) (by unfold wrap64; omega)), (by first | rfl | (simp; done) | (simp [*]; done) | exact congrArg (Value.int _) (by unfold wrap64; omega)), H', ⟨by have := HK1.out; have := HK2.out; omega⟩, ⟨by repeat (first | (with_reducible first | exact HB.out | apply below_alloc | apply pw_below_drewN | apply below_drew1) | exact HB.out)⟩⟩
              · rw [if_neg c9] at H
                have c9b0 : decide (x14_2 < a3) = false := decide_eq_false c9
                clear c9
                obtain rfl := Option.some.inj H
                go_wp2
                go_ret
                exact ⟨by first | rfl | (simp [errW_none, errW_some] <;> rfl) | (simp [*, errW_none, errW_some] <;> rfl), by repeat (first | (with_reducible first | exact HB.out | apply below_alloc | apply pw_below_drewN | apply below_drew1) | exact HB.out)⟩
        · rw [if_neg c8] at H
          have c8b0 : decide (a4 ≤ a0) = false := decide_eq_false c8
          clear c8
          by_cases c10 : a3 = 0
          · rw [if_pos c10] at H
            have c10b0 : (a3 == 0) = true := beq_iff_eq.mpr c10
            have c10b1 : (a3 != 0) = false := bne_eq_false_iff_eq.mpr c10
            clear c10
            obtain rfl := Option.some.inj H
            go_wp2
            go_ret
            exact ⟨by first | rfl | (simp [errW_none, errW_some] <;> rfl) | (simp [*, errW_none, errW_some] <;> rfl), by repeat (first | (with_reducible first | exact HB.out | apply below_alloc | apply pw_below_drewN | apply below_drew1) | exact HB.out)⟩
          · rw [if_neg c10] at H
            have c10b0 : (a3 == 0) = false := beq_eq_false_iff_ne.mpr c10
            have c10b1 : (a3 != 0) = true := bne_iff_ne.mpr c10
            have H' := Aside0.mk H
            clear H
            go_wp2
            go_loopg [15, 16] k1 (fun kq v15 v16 w' => ∃ (x15_2 : Int) (x16_2 : Int), v15 = .int .i64 x15_2 ∧ v16 = .int .i64 x16_2 ∧ Aside0 (flagstonelaw42_reaches.l2 kq a0 l1 l2 a3 a4 x15_2 x16_2 = some r) ∧ Aside0 (kq ≤ k1) ∧ Aside0 (Below w.heap.size w w'))
            case atStart => exact ⟨(0), (0), (by first | rfl | (simp; done) | (simp [*]; done) | exact congrArg (Value.int _) (by unfold wrap64; omega)), (by first | rfl | (simp; done) | (simp [*]; done) | exact congrArg (Value.int _) (by unfold wrap64; omega)), H', ⟨Nat.le_refl _⟩, ⟨by repeat (first | (with_reducible first | exact HB.out | apply below_alloc | apply pw_below_drewN | apply below_drew1) | exact HB.out)⟩⟩
            case round =>
              clear H'
              try clear c1
              try clear c2
              try clear p2
              try clear q2
              try clear hx2
              try clear c6
              try clear c6b0
              try clear p6
              try clear c7
              try clear c7b0
              try clear c8
              try clear c8b0
              try clear c9
              try clear c9b0
              try clear c10
              try clear c10b0
              try clear c10b1
              try clear hx226_0
              try clear p2
              try clear p226
              try clear p6
              try clear q2
              try clear q226
              obtain ⟨x15_2, x16_2, rfl, rfl, HA, HK2, HB⟩ := hrel
              cases gk with
              | zero => exact absurd HA.out (by simp [flagstonelaw42_reaches.l2])
              | succ k2 =>
                have H := HA.out
                clear HA
                simp only [flagstonelaw42_reaches.l2] at H
                by_cases c11 : x16_2 < (l2.length : Int)
                · rw [if_pos c11] at H
                  have c11b0 : decide (x16_2 < (l2.length : Int)) = true := decide_eq_true c11
                  clear c11
                  replace H := Option.bind_eq_some_iff.mp H
                  obtain ⟨⟨t227, t228⟩, A120, H⟩ := H
                  replace H : (if 0 ≤ x16_2 then ((flagstonelaw42_reaches.f k2 t227 t228 l2 (wrap64 (a3 - 1)) a4).bind fun t232 => (flagstonelaw42_reaches.l2 k2 a0 l1 l2 a3 a4 (wrap64 (x15_2 + (wrap64 ((rd l2 x16_2) * t232)))) (wrap64 (x16_2 + 1)))) else (none)) = some r := H
                  have A12 := Aside0.mk A120
                  clear A120
                  by_cases c13 : 0 ≤ x16_2
                  · rw [if_pos c13] at H
                    have c13b0 : decide (0 ≤ x16_2) = true := decide_eq_true c13
                    clear c13
                    replace H := Option.bind_eq_some_iff.mp H
                    obtain ⟨t232, A140, H⟩ := H
                    replace H : (flagstonelaw42_reaches.l2 k2 a0 l1 l2 a3 a4 (wrap64 (x15_2 + (wrap64 ((rd l2 x16_2) * t232)))) (wrap64 (x16_2 + 1))) = some r := H
                    have A14 := Aside0.mk A140
                    clear A140
                    have H' := Aside0.mk H
                    clear H
                    try go_wp2_with (first | ((with_reducible refine gate_callee (f := 9) rfl ?_); refine goesL_ (some 57) rfl rfl Try.func9 (by kernel_rfl) rfl #[.int .i64 a0, .slice A1 l1.length c1, .slice A2 l2.length c2, .int .i64 (wrap64 (x16_2 + 1))] rfl (by (try simp only [List.map_toArray, List.map_cons, List.map_nil]); first | done | rfl | (simp only [List.length_drop, List.length_take]; rfl)) ?_; (with_reducible refine (balance_Step.calls k2 a0 _ _ l1 _ _ l2 (wrap64 (x16_2 + 1)) t227 t228 _ ?side1 ?side2 ?side3 ?side4 A12.out).mono ?_); (case side1 => repeat (first | exact (Kd.C_below HR1.out HB.out) | (with_reducible refine Kd.C_alloc ?_ _) | (with_reducible refine Kd.C_drewN ?_ _) | (with_reducible refine Kd.C_drew ?_))); (case side2 => exact HC1.out); (case side3 => repeat (first | exact (Kd.C_below HR2.out HB.out) | (with_reducible refine Kd.C_alloc ?_ _) | (with_reducible refine Kd.C_drewN ?_ _) | (with_reducible refine Kd.C_drew ?_))); (case side4 => exact HC2.out); rintro e w15 ⟨v229, rfl, ho0, hb⟩; refine ⟨_, rfl, ?_⟩; have n0_ := Aside0.mk (Kd.R_lower ho0 (below_size (by repeat (first | (with_reducible first | exact HB.out | apply below_alloc | apply pw_below_drewN | apply below_drew1) | exact HB.out)))); have n1_ := Aside0.mk (below_step (by repeat (first | (with_reducible first | exact HB.out | apply below_alloc | apply pw_below_drewN | apply below_drew1) | exact HB.out)) hb); clear HB; have HO230 := n0_; have HB := n1_; clear n0_ n1_; (try clear hb); (try clear hb2); (try clear hk); (try clear hi); (try clear ho0)))
                    have n0_ := Aside0.mk (Kd.R_drew HO230.out)
                    have n1_ := Aside0.mk (below_drew1 HB.out)
                    clear HO230
                    clear HB
                    have HO230 := n0_
                    have HB := n1_
                    clear n0_ n1_
                    have p231 : 0 ≤ (x16_2 : Int) := of_decide_eq_true (by first | (with_reducible assumption) | assumption)
                    have q231 : x16_2 < (l2.length : Int) := of_decide_eq_true (by first | (with_reducible assumption) | assumption)
                    obtain ⟨ad231, e231, hx231_0⟩ := Kd.at_int HR2.out x16_2 p231 q231
                    have hw231_0 := hx231_0
                    cases e231
                    replace hx231_0 := (HB.out.cell (World.block_lt_of_cell? w _ hx231_0)).trans hx231_0
                    replace p231 := eq_true p231
                    replace q231 := eq_true q231
                    obtain ⟨Ao17, co17, eo17⟩ := Kd.R_slice HO230.out
                    (first | subst eo17 | (injection eo17 with f1_ f2_ f3_; have f4_ := f1_.symm; have f5_ := f3_.symm; clear f1_ f2_ f3_; subst f4_; subst f5_))
                    refine start_ (n := 15) (S := fun w' => w'.cell? (ad231.add (x16_2).toNat) = some (.int .i64 (rd l2 x16_2))) (ds := []) #[false, false, false, false, false, false, false, false, false, false, false, false, false, false, false] (by kernel_rfl) rfl rfl (((HB.out.cell (World.block_lt_of_cell? w _ hw231_0)).trans hw231_0)) (fun hHeld => ?_); refine with_tabW flagstonelaw42_reaches.tab20 flagstonelaw42_reaches.bits20 (fun HT_ HW_ => ?_)
                    generalize w15.drew = w16 at HO230 HB hx231_0 hHeld ⊢
                    refine pure_ (i := 0) (N := some 60) (v := ?_) (a' := ?_) #[true, false, false, false, false, false, false, false, false, false, false, false, false, false, false] rfl rfl (any_of HT_.out (by kernel_rfl)) (fun _ _ _ h => h) (Or.inl ⟨by rfl, ?_⟩) ?_ ?_
                    rotate_left
                    · intro w'
                      go_simp
                      with_reducible rfl
                    rotate_left
                    · simp only [Act.put, List.setIfInBounds_toArray, List.set_cons_zero, List.set_cons_succ, i64_w, i32_w]
                      rfl
                    refine pure_ (i := 1) (N := some 61) (v := ?_) (a' := ?_) #[true, true, false, false, false, false, false, false, false, false, false, false, false, false, false] rfl rfl (any_of HT_.out (by kernel_rfl)) (fun _ _ _ h => h) (Or.inl ⟨by rfl, ?_⟩) ?_ ?_
                    rotate_left
                    · intro w'
                      go_simp
                      with_reducible rfl
                    rotate_left
                    · simp only [Act.put, List.setIfInBounds_toArray, List.set_cons_zero, List.set_cons_succ, i64_w, i32_w]
                      rfl
                    refine pure_ (i := 2) (N := some 62) (v := ?_) (a' := ?_) #[true, true, true, false, false, false, false, false, false, false, false, false, false, false, false] rfl rfl (any_of HT_.out (by kernel_rfl)) (fun _ _ _ h => h) (Or.inl ⟨by rfl, ?_⟩) ?_ ?_
                    rotate_left
                    · intro w'
                      go_simp
                      with_reducible rfl
                    rotate_left
                    · simp only [Act.put, List.setIfInBounds_toArray, List.set_cons_zero, List.set_cons_succ, i64_w, i32_w]
                      rfl
                    refine pure_ (i := 3) (N := some 63) (v := ?_) (a' := ?_) #[true, true, true, true, false, false, false, false, false, false, false, false, false, false, false] rfl rfl (any_of HT_.out (by kernel_rfl)) (fun _ _ _ h => h) (Or.inl ⟨by rfl, ?_⟩) ?_ ?_
                    rotate_left
                    · intro w'
                      go_simp
                      with_reducible rfl
                    rotate_left
                    · simp only [Act.put, List.setIfInBounds_toArray, List.set_cons_zero, List.set_cons_succ, i64_w, i32_w]
                      rfl
                    refine pure_ (i := 5) (N := some 65) (v := ?_) (a' := ?_) #[true, true, true, true, false, true, false, false, false, false, false, false, false, false, false] rfl rfl (any_of HT_.out (by kernel_rfl)) (fun _ _ _ h => h) (Or.inl ⟨by rfl, ?_⟩) ?_ ?_
                    rotate_left
                    · intro w'
                      go_simp
                      with_reducible rfl
                    rotate_left
                    · simp only [Act.put, List.setIfInBounds_toArray, List.set_cons_zero, List.set_cons_succ, i64_w, i32_w]
                      rfl
                    refine pure_ (i := 6) (N := some 66) (v := ?_) (a' := ?_) #[true, true, true, true, false, true, true, false, false, false, false, false, false, false, false] rfl rfl (any_of HT_.out (by kernel_rfl)) (fun _ _ _ h => h) (Or.inl ⟨by rfl, ?_⟩) ?_ ?_
                    rotate_left
                    · intro w'
                      go_simp
                      with_reducible rfl
                    rotate_left
                    · simp only [Act.put, List.setIfInBounds_toArray, List.set_cons_zero, List.set_cons_succ, i64_w, i32_w]
                      rfl
                    refine pure_ (i := 7) (N := some 67) (v := ?_) (a' := ?_) #[true, true, true, true, false, true, true, true, false, false, false, false, false, false, false] rfl rfl (any_of HT_.out (by kernel_rfl)) (fun _ _ _ h => h) (Or.inl ⟨by rfl, ?_⟩) ?_ ?_
                    rotate_left
                    · intro w'
                      go_simp
                      with_reducible rfl
                    rotate_left
                    · simp only [Act.put, List.setIfInBounds_toArray, List.set_cons_zero, List.set_cons_succ, i64_w, i32_w]
                      rfl
                    refine pure_ (i := 8) (N := some 68) (v := ?_) (a' := ?_) #[true, true, true, true, false, true, true, true, true, false, false, false, false, false, false] rfl rfl (any_of HT_.out (by kernel_rfl)) (fun _ _ _ h => h) (Or.inl ⟨by rfl, ?_⟩) ?_ ?_
                    rotate_left
                    · intro w'
                      go_simp
                      with_reducible rfl
                    rotate_left
                    · simp only [Act.put, List.setIfInBounds_toArray, List.set_cons_zero, List.set_cons_succ, i64_w, i32_w]
                      rfl
                    refine pure_ (i := 9) (N := some 69) (v := ?_) (a' := ?_) #[true, true, true, true, false, true, true, true, true, true, false, false, false, false, false] rfl rfl (any_of HT_.out (by kernel_rfl)) (fun _ _ _ h => h) (Or.inl ⟨by rfl, ?_⟩) ?_ ?_
                    rotate_left
                    · intro w'
                      go_simp
                      with_reducible rfl
                    rotate_left
                    · simp only [Act.put, List.setIfInBounds_toArray, List.set_cons_zero, List.set_cons_succ, i64_w, i32_w]
                      rfl
                    refine pure_ (i := 10) (N := some 70) (v := ?_) (a' := ?_) #[true, true, true, true, false, true, true, true, true, true, true, false, false, false, false] rfl rfl (any_of HT_.out (by kernel_rfl)) (fun _ _ _ h => h) (Or.inl ⟨by rfl, ?_⟩) ?_ ?_
                    rotate_left
                    · intro w'
                      go_simp
                      with_reducible rfl
                    rotate_left
                    · simp only [Act.put, List.setIfInBounds_toArray, List.set_cons_zero, List.set_cons_succ, i64_w, i32_w]
                      rfl
                    refine take_ (i := 4) (N := some 64) (v := ?_) (a' := ?_) #[true, true, true, true, true, true, true, true, true, true, true, false, false, false, false] rfl rfl (take_ofW HT_.out HW_.out (by kernel_rfl)) (fun _ _ _ h => h) (Or.inl ⟨by rfl, ?_⟩) hHeld ?_ ?_
                    rotate_left
                    · intro w' s0
                      go_simp
                      with_reducible rfl
                    rotate_left
                    · simp only [Act.put, List.setIfInBounds_toArray, List.set_cons_zero, List.set_cons_succ, i64_w, i32_w]
                      rfl
                    refine one_ (i := 11) (N := some 71) #[true, true, true, true, true, true, true, true, true, true, true, true, false, false, false] rfl rfl (one_of HT_.out (by kernel_rfl)) (by decide) (fun K hK => ?_)
                    refine goes_ Try.func12 (by kernel_rfl) rfl #[.int .i64 t227, .slice Ao17 t228.length co17, .slice (some ad231) l2.length c2, .int .i64 (wrap64 (a3 - 1)), .int .i64 a4] (by rfl) rfl rfl (by (try simp only [List.map_toArray, List.map_cons, List.map_nil]); first | done | rfl | (simp only [List.length_drop, List.length_take]; rfl)) ?_
                    with_reducible refine (ih k2 (by have := HK1.out; have := HK2.out; omega) t227 _ _ t228 _ _ l2 (wrap64 (a3 - 1)) a4 t232 _ ?side1 ?side2 ?side3 ?side4 A14.out).mono ?_
                    (case side1 => repeat (first | exact (Kd.R_reads' HO230.out).2.2 | (with_reducible refine Kd.C_alloc ?_ _) | (with_reducible refine Kd.C_drewN ?_ _) | (with_reducible refine Kd.C_drew ?_)))
                    (case side2 => exact (Kd.R_reads' HO230.out).2.1)
                    (case side3 => repeat (first | exact (Kd.C_below HR2.out HB.out) | (with_reducible refine Kd.C_alloc ?_ _) | (with_reducible refine Kd.C_drewN ?_ _) | (with_reducible refine Kd.C_drew ?_)))
                    (case side4 => exact HC2.out)
                    rintro e w18 ⟨rfl, hb⟩
                    refine ⟨_, rfl, ?_⟩
                    have n0_ := Aside0.mk (Kd.R_below (by (with_reducible repeat (first | apply Kd.R_alloc | apply Kd.R_drewN | apply Kd.R_drew)); exact HO230.out) hb)
                    have n1_ := Aside0.mk (below_step (by repeat (first | (with_reducible first | exact HB.out | apply below_alloc | apply pw_below_drewN | apply below_drew1) | exact HB.out)) hb)
                    clear HO230
                    clear HB
                    have HO230 := n0_
                    have HB := n1_
                    clear n0_ n1_
                    (try clear hb)
                    (try clear hb2)
                    (try clear hk)
                    (try clear hi)
                    refine hK.out _ _ (((HB.out.cell (World.block_lt_of_cell? w _ hw231_0)).trans hw231_0)) (fun hHeld => ?_)
                    clear hK K
                    refine norm_ (a' := ?_) ?_ ?_
                    rotate_left
                    · show Act.put _ (some 71) _ = _
                      simp only [Act.put, List.setIfInBounds_toArray, List.set_cons_zero, List.set_cons_succ, i64_w, i32_w]
                      rfl
                    refine pure_ (i := 12) (N := some 72) (v := ?_) (a' := ?_) #[true, true, true, true, true, true, true, true, true, true, true, true, true, false, false] rfl rfl (any_of HT_.out (by kernel_rfl)) (fun _ _ _ h => h) (Or.inl ⟨by rfl, ?_⟩) ?_ ?_
                    rotate_left
                    · intro w'
                      go_simp
                      with_reducible rfl
                    rotate_left
                    · simp only [Act.put, List.setIfInBounds_toArray, List.set_cons_zero, List.set_cons_succ, i64_w, i32_w]
                      rfl
                    refine pure_ (i := 13) (N := some 73) (v := ?_) (a' := ?_) #[true, true, true, true, true, true, true, true, true, true, true, true, true, true, false] rfl rfl (any_of HT_.out (by kernel_rfl)) (fun _ _ _ h => h) (Or.inl ⟨by rfl, ?_⟩) ?_ ?_
                    rotate_left
                    · intro w'
                      go_simp
                      with_reducible rfl
                    rotate_left
                    · simp only [Act.put, List.setIfInBounds_toArray, List.set_cons_zero, List.set_cons_succ, i64_w, i32_w]
                      rfl
                    refine pure_ (i := 14) (N := some 15) (v := ?_) (a' := ?_) #[true, true, true, true, true, true, true, true, true, true, true, true, true, true, true] rfl rfl (any_of HT_.out (by kernel_rfl)) (fun _ _ _ h => h) (Or.inl ⟨by rfl, ?_⟩) ?_ ?_
                    rotate_left
                    · intro w'
                      go_simp
                      with_reducible rfl
                    rotate_left
                    · simp only [Act.put, List.setIfInBounds_toArray, List.set_cons_zero, List.set_cons_succ, i64_w, i32_w]
                      rfl
                    refine done_ (done_of HT_.out (by kernel_rfl)) ?_
                    try go_wp2
                    go_roundg k2
                    case measure => have := HK1.out; have := HK2.out; omega
                    case rel => exact ⟨(wrap64 (x15_2 + (wrap64 ((rd l2 x16_2) * t232)))), (wrap64 (x16_2 + 1)), (by first | rfl | (simp; done) | (simp [*]; done) | exact congrArg (Value.int _) (by unfold wrap64; omega)), (by first | rfl | (simp; done) | (simp [*]; done) | exact congrArg (Value.int _) (by unfold wrap64; omega)), H', ⟨by have := HK1.out; have := HK2.out; omega⟩, ⟨by repeat (first | (with_reducible first | exact HB.out | apply below_alloc | apply pw_below_drewN | apply below_drew1) | exact HB.out)⟩⟩
                  · rw [if_neg c13] at H
                    exact absurd H (by simp)
                · rw [if_neg c11] at H
                  have c11b0 : decide (x16_2 < (l2.length : Int)) = false := decide_eq_false c11
                  clear c11
                  obtain rfl := Option.some.inj H
                  go_wp2
                  go_ret
                  exact ⟨by first | rfl | (simp [errW_none, errW_some] <;> rfl) | (simp [*, errW_none, errW_some] <;> rfl), by repeat (first | (with_reducible first | exact HB.out | apply below_alloc | apply pw_below_drewN | apply below_drew1) | exact HB.out)⟩

/-! ### flagstonelaw42_BalanceLevel: function 5 -/
mutual
def flagstonelaw42_BalanceLevel.j0 : Nat → Bool → Int → List Int → Option (Bool)
  | 0, _, _, _ => none
  | k + 1, x3, x4, x11 => flagstonelaw42_BalanceLevel.l0 k x3 x11 (wrap64 (1 + (wrap64 ((Int.tmod (wrap64 (x4)) 255) * 3)))) 1 (wrap64 (9 - (x11.length : Int))) 0
def flagstonelaw42_BalanceLevel.l0 : Nat → Bool → List Int → Int → Int → Int → Int → Option (Bool)
  | 0, _, _, _, _, _, _ => none
  | k + 1, x3, x11, x12, x13, x14, x15 => if x15 < x14 then (if 0 < (x11.length : Int) then (if 1 < (x11.length : Int) then (if x3 = true then (if 2 < (x11.length : Int) then (flagstonelaw42_BalanceLevel.l0 k x3 x11 x12 (wrap64 (x13 * (wrap64 ((wrap64 ((rd x11 0) + (rd x11 1))) + (rd x11 2))))) x14 (wrap64 (x15 + 1))) else (none)) else (flagstonelaw42_BalanceLevel.l0 k x3 x11 x12 (wrap64 (x13 * (wrap64 ((rd x11 0) + (rd x11 1))))) x14 (wrap64 (x15 + 1)))) else (none)) else (none)) else (if x12 = 0 then (none) else (if 0 ≤ (x11.length : Int) then (if ((x11.length : Int) : Int).toNat ≤ 35184372088832 then ((flagstonelaw42_reaches.f k 4294967296 (List.replicate ((x11.length : Int) : Int).toNat 0) x11 x14 (wrap64 (Int.tdiv (wrap64 ((wrap64 (4294967296000 + x12)) - 1)) x12))).bind fun t243 => (some (decide ((wrap64 (t243 * 1000)) ≤ (wrap64 (x12 * x13)))))) else (none)) else (none)))
end
def flagstonelaw42_BalanceLevel.f (k : Nat) (a0 : Int) (a1 : Int) (a2 : Int) (a3 : Bool) (a4 : Int) : Option (Bool) := (flagstonelaw42_awake.f k).bind fun t233 => (if t233 = true then ((some (([wrap64 (1 + (Int.tmod (wrap64 (a0)) 9)), wrap64 (1 + (Int.tmod (wrap64 (a1)) 9))] : List Int) : List Int)).bind fun y234 => (if a3 = true then (if y234.length < 17592186044416 then (flagstonelaw42_BalanceLevel.j0 k a3 a4 (y234 ++ [wrap64 (1 + (Int.tmod (wrap64 (a2)) 9))])) else (none)) else (flagstonelaw42_BalanceLevel.j0 k a3 a4 y234))) else (some false))
theorem flagstonelaw42_BalanceLevel.mono_l : ∀ k, (∀ y0 y1 y2, LeO (flagstonelaw42_BalanceLevel.j0 k y0 y1 y2) (flagstonelaw42_BalanceLevel.j0 (k + 1) y0 y1 y2)) ∧ (∀ y0 y1 y2 y3 y4 y5, LeO (flagstonelaw42_BalanceLevel.l0 k y0 y1 y2 y3 y4 y5) (flagstonelaw42_BalanceLevel.l0 (k + 1) y0 y1 y2 y3 y4 y5))
  | 0 => ⟨fun _ _ _ r h => by simp [flagstonelaw42_BalanceLevel.j0] at h, fun _ _ _ _ _ _ r h => by simp [flagstonelaw42_BalanceLevel.l0] at h⟩
  | k + 1 => by
    obtain ⟨ih0, ih1⟩ := flagstonelaw42_BalanceLevel.mono_l k
    refine ⟨?_, ?_⟩
    · intro y0 y1 y2
      unfold flagstonelaw42_BalanceLevel.j0
      repeat' first
      | (with_reducible exact ih0 _ _ _)
      | (with_reducible exact ih1 _ _ _ _ _ _)
      | (with_reducible exact flagstonelaw42_awake.mono _)
      | (with_reducible exact flagstonelaw42_reaches.mono _ _ _ _ _ _)
      | (with_reducible exact LeO.refl _)
      | (with_reducible exact LeO.none _)
      | (with_reducible refine LeO.ite ?_ ?_)
      | (with_reducible refine LeO.bind ?_ (fun _ => ?_))
      | exact ih0 _ _ _
      | exact ih1 _ _ _ _ _ _
      | exact flagstonelaw42_awake.mono _
      | exact flagstonelaw42_reaches.mono _ _ _ _ _ _
      | exact LeO.none _
      | refine LeO.ite ?_ ?_
      | refine LeO.bind ?_ (fun _ => ?_)
    · intro y0 y1 y2 y3 y4 y5
      unfold flagstonelaw42_BalanceLevel.l0
      repeat' first
      | (with_reducible exact ih0 _ _ _)
      | (with_reducible exact ih1 _ _ _ _ _ _)
      | (with_reducible exact flagstonelaw42_awake.mono _)
      | (with_reducible exact flagstonelaw42_reaches.mono _ _ _ _ _ _)
      | (with_reducible exact LeO.refl _)
      | (with_reducible exact LeO.none _)
      | (with_reducible refine LeO.ite ?_ ?_)
      | (with_reducible refine LeO.bind ?_ (fun _ => ?_))
      | exact ih0 _ _ _
      | exact ih1 _ _ _ _ _ _
      | exact flagstonelaw42_awake.mono _
      | exact flagstonelaw42_reaches.mono _ _ _ _ _ _
      | exact LeO.none _
      | refine LeO.ite ?_ ?_
      | refine LeO.bind ?_ (fun _ => ?_)
theorem flagstonelaw42_BalanceLevel.mono : ∀ a0 a1 a2 a3 a4 k, LeO (flagstonelaw42_BalanceLevel.f k a0 a1 a2 a3 a4) (flagstonelaw42_BalanceLevel.f (k + 1) a0 a1 a2 a3 a4) := by
  intro a0 a1 a2 a3 a4 k
  obtain ⟨ih0, ih1⟩ := flagstonelaw42_BalanceLevel.mono_l k
  unfold flagstonelaw42_BalanceLevel.f
  repeat' first
      | (with_reducible exact ih0 _ _ _)
      | (with_reducible exact ih1 _ _ _ _ _ _)
      | (with_reducible exact flagstonelaw42_awake.mono _)
      | (with_reducible exact flagstonelaw42_reaches.mono _ _ _ _ _ _)
      | (with_reducible exact LeO.refl _)
      | (with_reducible exact LeO.none _)
      | (with_reducible refine LeO.ite ?_ ?_)
      | (with_reducible refine LeO.bind ?_ (fun _ => ?_))
      | exact ih0 _ _ _
      | exact ih1 _ _ _ _ _ _
      | exact flagstonelaw42_awake.mono _
      | exact flagstonelaw42_reaches.mono _ _ _ _ _ _
      | exact LeO.none _
      | refine LeO.ite ?_ ?_
      | refine LeO.bind ?_ (fun _ => ?_)
set_option maxHeartbeats 8000000 in
set_option maxRecDepth 100000 in
theorem flagstonelaw42_BalanceLevel.calls (k : Nat) (a0 : Int) (a1 : Int) (a2 : Int) (a3 : Bool) (a4 : Int) (r : Bool) (w : World) (h : flagstonelaw42_BalanceLevel.f k a0 a1 a2 a3 a4 = some r) :
    Calls Try.prog 5 #[.int .u8 a0, .int .u8 a1, .int .u8 a2, .bool a3, .int .u8 a4] w fun e w' => e = .returned (.bool r) ∧ Below w.heap.size w w' := by
  have HB := Aside0.mk (Below.refl w.heap.size w)
  have H : ((flagstonelaw42_awake.f k).bind fun t233 => (if t233 = true then ((some (([wrap64 (1 + (Int.tmod (wrap64 (a0)) 9)), wrap64 (1 + (Int.tmod (wrap64 (a1)) 9))] : List Int) : List Int)).bind fun y234 => (if a3 = true then (if y234.length < 17592186044416 then (flagstonelaw42_BalanceLevel.j0 k a3 a4 (y234 ++ [wrap64 (1 + (Int.tmod (wrap64 (a2)) 9))])) else (none)) else (flagstonelaw42_BalanceLevel.j0 k a3 a4 y234))) else (some false))) = some r := h
  clear h
  replace H := Option.bind_eq_some_iff.mp H
  obtain ⟨t233, A60, H⟩ := H
  replace H : (if t233 = true then ((some (([wrap64 (1 + (Int.tmod (wrap64 (a0)) 9)), wrap64 (1 + (Int.tmod (wrap64 (a1)) 9))] : List Int) : List Int)).bind fun y234 => (if a3 = true then (if y234.length < 17592186044416 then (flagstonelaw42_BalanceLevel.j0 k a3 a4 (y234 ++ [wrap64 (1 + (Int.tmod (wrap64 (a2)) 9))])) else (none)) else (flagstonelaw42_BalanceLevel.j0 k a3 a4 y234))) else (some false)) = some r := H
  have A6 := Aside0.mk A60
  clear A60
  by_cases c7 : t233 = true
  · subst c7
    have H1 : ((some (([wrap64 (1 + (Int.tmod (wrap64 (a0)) 9)), wrap64 (1 + (Int.tmod (wrap64 (a1)) 9))] : List Int) : List Int)).bind fun y234 => (if a3 = true then (if y234.length < 17592186044416 then (flagstonelaw42_BalanceLevel.j0 k a3 a4 (y234 ++ [wrap64 (1 + (Int.tmod (wrap64 (a2)) 9))])) else (none)) else (flagstonelaw42_BalanceLevel.j0 k a3 a4 y234))) = some r := by rw [if_pos rfl] at H; exact H
    clear H
    have H := H1
    clear H1
    obtain ⟨y234, hy234⟩ : ∃ y_ : List Int, y_ = (([wrap64 (1 + (Int.tmod (wrap64 (a0)) 9)), wrap64 (1 + (Int.tmod (wrap64 (a1)) 9))] : List Int)) := ⟨_, rfl⟩
    replace H : (if a3 = true then (if y234.length < 17592186044416 then (flagstonelaw42_BalanceLevel.j0 k a3 a4 (y234 ++ [wrap64 (1 + (Int.tmod (wrap64 (a2)) 9))])) else (none)) else (flagstonelaw42_BalanceLevel.j0 k a3 a4 y234)) = some r := by first | (rw [hy234]; with_reducible exact H) | (have H2_ := (Option.bind_some _ _).symm.trans H; rw [hy234]; with_reducible exact H2_) | (have H2_ := (Option.bind_some _ _).symm.trans H; with_reducible exact H2_) | with_reducible exact H | (rw [hy234]; exact H) | exact H
    have Ny234 := Aside0.mk hy234
    clear hy234
    have HC8 := Aside0.mk H
    clear H
    go_enter Try.func5, Try.ntmps5
    go_upto_if 29 with (first | (go_at_call 8; (with_reducible refine (flagstonelaw42_awake.calls k  true _ A6.out).mono ?_); rintro e w9 ⟨rfl, hb⟩; have n0_ := Aside0.mk (below_step (by repeat (first | (with_reducible first | exact HB.out | apply below_alloc | apply pw_below_drewN | apply below_drew1) | exact HB.out)) hb); clear HB; have HB := n0_; clear n0_; (try clear hb); (try clear hb2); (try clear hk); (try clear hi)) | ((with_reducible refine gate_dst (N := 28) rfl ?_); refine Kd.R_lit (Kd.int .i64) _ 3 ?hg (N := 28) ?hd (xs := ([wrap64 (1 + (Int.tmod (wrap64 (a0)) 9)), wrap64 (1 + (Int.tmod (wrap64 (a1)) 9))] : List Int)) (inner := [.int .i64 (wrap64 (1 + (Int.tmod (wrap64 (a0)) 9))), .int .i64 (wrap64 (1 + (Int.tmod (wrap64 (a1)) 9)))]) (ok := fun _ => True) (okp := fun _ => True) ?hr ?hp (fun _ hk => hk) trivial (Below.refl _ _) (Nat.le_refl _) (by simp) ?_; (case hd => rfl); (case hg => rfl); (case hr => first | (go_simp; done) | (go_simp; rfl)); (case hp => exact (Reps.one (show Kd.M (Kd.int .i64) _ _ _ (wrap64 (1 + (Int.tmod (wrap64 (a0)) 9))) [.int .i64 (wrap64 (1 + (Int.tmod (wrap64 (a0)) 9)))] from rfl) (Reps.one (show Kd.M (Kd.int .i64) _ _ _ (wrap64 (1 + (Int.tmod (wrap64 (a1)) 9))) [.int .i64 (wrap64 (1 + (Int.tmod (wrap64 (a1)) 9)))] from rfl) (Reps.none _ _)))); intro v235 w10 ho11 hb hg_ hnew_; clear hg_ hnew_; (first | rw [← Ny234.out] at ho11 | (simp only [Int.reduceToNat] at ho11; rw [← Ny234.out] at ho11)); have n0_ := Aside0.mk (Kd.R_lower ho11 (below_size (by repeat (first | (with_reducible first | exact HB.out | apply below_alloc | apply pw_below_drewN | apply below_drew1) | exact HB.out)))); have n1_ := Aside0.mk (below_step (by repeat (first | (with_reducible first | exact HB.out | apply below_alloc | apply pw_below_drewN | apply below_drew1) | exact HB.out)) hb); clear HB; have HO236 := n0_; have HB := n1_; clear n0_ n1_; clear hb ho11))
    repeat (go_quiet (first | (go_at_call 8; (with_reducible refine (flagstonelaw42_awake.calls k  true _ A6.out).mono ?_); rintro e w9 ⟨rfl, hb⟩; have n0_ := Aside0.mk (below_step (by repeat (first | (with_reducible first | exact HB.out | apply below_alloc | apply pw_below_drewN | apply below_drew1) | exact HB.out)) hb); clear HB; have HB := n0_; clear n0_; (try clear hb); (try clear hb2); (try clear hk); (try clear hi)) | ((with_reducible refine gate_dst (N := 28) rfl ?_); refine Kd.R_lit (Kd.int .i64) _ 3 ?hg (N := 28) ?hd (xs := ([wrap64 (1 + (Int.tmod (wrap64 (a0)) 9)), wrap64 (1 + (Int.tmod (wrap64 (a1)) 9))] : List Int)) (inner := [.int .i64 (wrap64 (1 + (Int.tmod (wrap64 (a0)) 9))), .int .i64 (wrap64 (1 + (Int.tmod (wrap64 (a1)) 9)))]) (ok := fun _ => True) (okp := fun _ => True) ?hr ?hp (fun _ hk => hk) trivial (Below.refl _ _) (Nat.le_refl _) (by simp) ?_; (case hd => rfl); (case hg => rfl); (case hr => first | (go_simp; done) | (go_simp; rfl)); (case hp => exact (Reps.one (show Kd.M (Kd.int .i64) _ _ _ (wrap64 (1 + (Int.tmod (wrap64 (a0)) 9))) [.int .i64 (wrap64 (1 + (Int.tmod (wrap64 (a0)) 9)))] from rfl) (Reps.one (show Kd.M (Kd.int .i64) _ _ _ (wrap64 (1 + (Int.tmod (wrap64 (a1)) 9))) [.int .i64 (wrap64 (1 + (Int.tmod (wrap64 (a1)) 9)))] from rfl) (Reps.none _ _)))); intro v235 w10 ho11 hb hg_ hnew_; clear hg_ hnew_; (first | rw [← Ny234.out] at ho11 | (simp only [Int.reduceToNat] at ho11; rw [← Ny234.out] at ho11)); have n0_ := Aside0.mk (Kd.R_lower ho11 (below_size (by repeat (first | (with_reducible first | exact HB.out | apply below_alloc | apply pw_below_drewN | apply below_drew1) | exact HB.out)))); have n1_ := Aside0.mk (below_step (by repeat (first | (with_reducible first | exact HB.out | apply below_alloc | apply pw_below_drewN | apply below_drew1) | exact HB.out)) hb); clear HB; have HO236 := n0_; have HB := n1_; clear n0_ n1_; clear hb ho11)); go_upto_if 29 with (first | (go_at_call 8; (with_reducible refine (flagstonelaw42_awake.calls k  true _ A6.out).mono ?_); rintro e w9 ⟨rfl, hb⟩; have n0_ := Aside0.mk (below_step (by repeat (first | (with_reducible first | exact HB.out | apply below_alloc | apply pw_below_drewN | apply below_drew1) | exact HB.out)) hb); clear HB; have HB := n0_; clear n0_; (try clear hb); (try clear hb2); (try clear hk); (try clear hi)) | ((with_reducible refine gate_dst (N := 28) rfl ?_); refine Kd.R_lit (Kd.int .i64) _ 3 ?hg (N := 28) ?hd (xs := ([wrap64 (1 + (Int.tmod (wrap64 (a0)) 9)), wrap64 (1 + (Int.tmod (wrap64 (a1)) 9))] : List Int)) (inner := [.int .i64 (wrap64 (1 + (Int.tmod (wrap64 (a0)) 9))), .int .i64 (wrap64 (1 + (Int.tmod (wrap64 (a1)) 9)))]) (ok := fun _ => True) (okp := fun _ => True) ?hr ?hp (fun _ hk => hk) trivial (Below.refl _ _) (Nat.le_refl _) (by simp) ?_; (case hd => rfl); (case hg => rfl); (case hr => first | (go_simp; done) | (go_simp; rfl)); (case hp => exact (Reps.one (show Kd.M (Kd.int .i64) _ _ _ (wrap64 (1 + (Int.tmod (wrap64 (a0)) 9))) [.int .i64 (wrap64 (1 + (Int.tmod (wrap64 (a0)) 9)))] from rfl) (Reps.one (show Kd.M (Kd.int .i64) _ _ _ (wrap64 (1 + (Int.tmod (wrap64 (a1)) 9))) [.int .i64 (wrap64 (1 + (Int.tmod (wrap64 (a1)) 9)))] from rfl) (Reps.none _ _)))); intro v235 w10 ho11 hb hg_ hnew_; clear hg_ hnew_; (first | rw [← Ny234.out] at ho11 | (simp only [Int.reduceToNat] at ho11; rw [← Ny234.out] at ho11)); have n0_ := Aside0.mk (Kd.R_lower ho11 (below_size (by repeat (first | (with_reducible first | exact HB.out | apply below_alloc | apply pw_below_drewN | apply below_drew1) | exact HB.out)))); have n1_ := Aside0.mk (below_step (by repeat (first | (with_reducible first | exact HB.out | apply below_alloc | apply pw_below_drewN | apply below_drew1) | exact HB.out)) hb); clear HB; have HO236 := n0_; have HB := n1_; clear n0_ n1_; clear hb ho11)))
    (try simp only [Act.put, List.setIfInBounds_toArray, List.set_cons_zero, List.set_cons_succ])
    go_cut [11] (fun v11 wc => ∃ (kq : Nat) (x11_7 : List Int), Aside0 (flagstonelaw42_BalanceLevel.j0 kq a3 a4 x11_7 = some r) ∧ Aside0 (kq ≤ k) ∧ Aside0 (Kd.R (Kd.int .i64) 3 wc w.heap.size (fun _ => True) v11 x11_7) ∧ Aside0 (Below w.heap.size w wc))
    case first =>
      have H := HC8.out
      clear HC8
      by_cases c12 : a3 = true
      · subst c12
        have H1 : (if y234.length < 17592186044416 then (flagstonelaw42_BalanceLevel.j0 k true a4 (y234 ++ [wrap64 (1 + (Int.tmod (wrap64 (a2)) 9))])) else (none)) = some r := by rw [if_pos rfl] at H; exact H
        clear H
        have H := H1
        clear H1
        by_cases c13 : y234.length < 17592186044416
        · rw [if_pos c13] at H
          have LMc13 := Aside0.mk c13
          clear c13
          obtain ⟨y237, hy237⟩ : ∃ y_ : List Int, y_ = (y234 ++ [wrap64 (1 + (Int.tmod (wrap64 (a2)) 9))]) := ⟨_, rfl⟩
          replace H : (flagstonelaw42_BalanceLevel.j0 k true a4 y237) = some r := by first | (rw [hy237]; with_reducible exact H) | (have H2_ := (Option.bind_some _ _).symm.trans H; rw [hy237]; with_reducible exact H2_) | (have H2_ := (Option.bind_some _ _).symm.trans H; with_reducible exact H2_) | with_reducible exact H | (rw [hy237]; exact H) | exact H
          have Ny237 := Aside0.mk hy237
          clear hy237
          have H' := Aside0.mk H
          clear H
          go_wp2_with (first | ((with_reducible refine gate_builtin (b := .append) (xs := #[.tmp 30, .tmp 35]) rfl ?_); at_builtin; refine Kd.R_append (Kd.int .i64) (w0 := w) w.heap.size rfl (.tmp 30) (.tmp 35) 22 3 (.int .i64 0) 8 rfl Try.underlying22 info3 rfl (by decide) (by omega) v235 y234 (wrap64 (1 + (Int.tmod (wrap64 (a2)) 9))) [.int .i64 (wrap64 (1 + (Int.tmod (wrap64 (a2)) 9)))] (fun _ => True) (fun _ => False) rfl rfl ?aP (fun _ hk => hk.elim) ?aF ?aO ?aB ?aS ?aL ?_; (case aP => exact rfl); (case aB => exact (by repeat (first | (with_reducible first | exact HB.out | apply below_alloc | apply pw_below_drewN | apply below_drew1) | exact HB.out))); (case aF => exact (fun _ _ => trivial)); (case aO => exact (by (with_reducible repeat (first | apply Kd.R_alloc | apply Kd.R_drewN | apply Kd.R_drew)); exact HO236.out)); (case aS => exact (below_size (by repeat (first | (with_reducible first | exact HB.out | apply below_alloc | apply pw_below_drewN | apply below_drew1) | exact HB.out)))); (case aL => have := LMc13.out; omega); intro v238 w14 ho hb hg hat; rw [← Ny237.out] at ho; have n0_ := Aside0.mk (hb); have n1_ := Aside0.mk (ho); clear HB; clear HO236; have HB := n0_; have HO239 := n1_; clear n0_ n1_; clear ho hb hg hat))
          repeat (go_quiet (first | ((with_reducible refine gate_builtin (b := .append) (xs := #[.tmp 30, .tmp 35]) rfl ?_); at_builtin; refine Kd.R_append (Kd.int .i64) (w0 := w) w.heap.size rfl (.tmp 30) (.tmp 35) 22 3 (.int .i64 0) 8 rfl Try.underlying22 info3 rfl (by decide) (by omega) v235 y234 (wrap64 (1 + (Int.tmod (wrap64 (a2)) 9))) [.int .i64 (wrap64 (1 + (Int.tmod (wrap64 (a2)) 9)))] (fun _ => True) (fun _ => False) rfl rfl ?aP (fun _ hk => hk.elim) ?aF ?aO ?aB ?aS ?aL ?_; (case aP => exact rfl); (case aB => exact (by repeat (first | (with_reducible first | exact HB.out | apply below_alloc | apply pw_below_drewN | apply below_drew1) | exact HB.out))); (case aF => exact (fun _ _ => trivial)); (case aO => exact (by (with_reducible repeat (first | apply Kd.R_alloc | apply Kd.R_drewN | apply Kd.R_drew)); exact HO236.out)); (case aS => exact (below_size (by repeat (first | (with_reducible first | exact HB.out | apply below_alloc | apply pw_below_drewN | apply below_drew1) | exact HB.out)))); (case aL => have := LMc13.out; omega); intro v238 w14 ho hb hg hat; rw [← Ny237.out] at ho; have n0_ := Aside0.mk (hb); have n1_ := Aside0.mk (ho); clear HB; clear HO236; have HB := n0_; have HO239 := n1_; clear n0_ n1_; clear ho hb hg hat)); try go_wp2_with (first | ((with_reducible refine gate_builtin (b := .append) (xs := #[.tmp 30, .tmp 35]) rfl ?_); at_builtin; refine Kd.R_append (Kd.int .i64) (w0 := w) w.heap.size rfl (.tmp 30) (.tmp 35) 22 3 (.int .i64 0) 8 rfl Try.underlying22 info3 rfl (by decide) (by omega) v235 y234 (wrap64 (1 + (Int.tmod (wrap64 (a2)) 9))) [.int .i64 (wrap64 (1 + (Int.tmod (wrap64 (a2)) 9)))] (fun _ => True) (fun _ => False) rfl rfl ?aP (fun _ hk => hk.elim) ?aF ?aO ?aB ?aS ?aL ?_; (case aP => exact rfl); (case aB => exact (by repeat (first | (with_reducible first | exact HB.out | apply below_alloc | apply pw_below_drewN | apply below_drew1) | exact HB.out))); (case aF => exact (fun _ _ => trivial)); (case aO => exact (by (with_reducible repeat (first | apply Kd.R_alloc | apply Kd.R_drewN | apply Kd.R_drew)); exact HO236.out)); (case aS => exact (below_size (by repeat (first | (with_reducible first | exact HB.out | apply below_alloc | apply pw_below_drewN | apply below_drew1) | exact HB.out)))); (case aL => have := LMc13.out; omega); intro v238 w14 ho hb hg hat; rw [← Ny237.out] at ho; have n0_ := Aside0.mk (hb); have n1_ := Aside0.mk (ho); clear HB; clear HO236; have HB := n0_; have HO239 := n1_; clear n0_ n1_; clear ho hb hg hat)))
          go_meet
          case rel => exact ⟨_, (y237), H', ⟨by first | omega | exact Nat.le_refl _⟩, ⟨by (with_reducible repeat (first | apply Kd.R_alloc | apply Kd.R_drewN | apply Kd.R_drew)); exact HO239.out⟩, ⟨by repeat (first | (with_reducible first | exact HB.out | apply below_alloc | apply pw_below_drewN | apply below_drew1) | exact HB.out)⟩⟩
        · rw [if_neg c13] at H
          exact absurd H (by simp)
      · replace c12 := Bool.eq_false_iff.mpr c12
        subst c12
        have H1 : (flagstonelaw42_BalanceLevel.j0 k false a4 y234) = some r := by rw [if_neg (show ¬ (false = true) by decide)] at H; exact H
        clear H
        have H := H1
        clear H1
        have H' := Aside0.mk H
        clear H
        go_wp2
        repeat (go_quiet (fail); try go_wp2)
        go_meet
        case rel => exact ⟨_, (y234), H', ⟨by first | omega | exact Nat.le_refl _⟩, ⟨by (with_reducible repeat (first | apply Kd.R_alloc | apply Kd.R_drewN | apply Kd.R_drew)); exact HO236.out⟩, ⟨by repeat (first | (with_reducible first | exact HB.out | apply below_alloc | apply pw_below_drewN | apply below_drew1) | exact HB.out)⟩⟩
    case rest =>
      clear HC8
      try clear c1
      try clear p2
      try clear c5
      try clear p6
      try clear c7
      try clear c12
      try clear c13
      obtain ⟨kq, x11_7, HA, HJ7, HO_11, HB⟩ := hcut
      cases kq with
      | zero => exact absurd HA.out (by simp [flagstonelaw42_BalanceLevel.j0])
      | succ kj7 =>
        have H := HA.out
        clear HA
        simp only [flagstonelaw42_BalanceLevel.j0] at H
        have H' := Aside0.mk H
        clear H
        obtain ⟨Ao15, co15, eo15⟩ := Kd.R_slice HO_11.out
        subst eo15
        go_wp2
        repeat (go_quiet (fail); try go_wp2)
        go_loopg [13, 15] kj7 (fun kq v13 v15 w' => ∃ (x13_2 : Int) (x15_2 : Int), v13 = .int .i64 x13_2 ∧ v15 = .int .i64 x15_2 ∧ Aside0 (flagstonelaw42_BalanceLevel.l0 kq a3 x11_7 (wrap64 (1 + (wrap64 ((Int.tmod (wrap64 (a4)) 255) * 3)))) x13_2 (wrap64 (9 - (x11_7.length : Int))) x15_2 = some r) ∧ Aside0 (kq ≤ kj7) ∧ Aside0 (Kd.R (Kd.int .i64) 3 w' w.heap.size (fun _ => True) (.slice Ao15 x11_7.length co15) x11_7) ∧ Aside0 (Below w.heap.size w w'))
        case atStart => exact ⟨(1), (0), (by first | rfl | (simp; done) | (simp [*]; done) | exact congrArg (Value.int _) (by unfold wrap64; omega)), (by first | rfl | (simp; done) | (simp [*]; done) | exact congrArg (Value.int _) (by unfold wrap64; omega)), H', ⟨Nat.le_refl _⟩, ⟨by (with_reducible repeat (first | apply Kd.R_alloc | apply Kd.R_drewN | apply Kd.R_drew)); exact HO_11.out⟩, ⟨by repeat (first | (with_reducible first | exact HB.out | apply below_alloc | apply pw_below_drewN | apply below_drew1) | exact HB.out)⟩⟩
        case round =>
          clear H'
          try clear c1
          try clear p2
          try clear c5
          try clear p6
          try clear c7
          try clear c12
          try clear c13
          try clear p2
          try clear p6
          obtain ⟨x13_2, x15_2, rfl, rfl, HA, HK2, HO_11, HB⟩ := hrel
          cases gk with
          | zero => exact absurd HA.out (by simp [flagstonelaw42_BalanceLevel.l0])
          | succ k2 =>
            have H := HA.out
            clear HA
            simp only [flagstonelaw42_BalanceLevel.l0] at H
            by_cases c16 : x15_2 < (wrap64 (9 - (x11_7.length : Int)))
            · rw [if_pos c16] at H
              have c16b0 : decide (x15_2 < (wrap64 (9 - (x11_7.length : Int)))) = true := decide_eq_true c16
              clear c16
              by_cases c17 : 0 < (x11_7.length : Int)
              · rw [if_pos c17] at H
                have c17b0 : decide (0 < (x11_7.length : Int)) = true := decide_eq_true c17
                have c17b1 : decide (0 < x11_7.length) = true := decide_eq_true (by omega)
                clear c17
                by_cases c18 : 1 < (x11_7.length : Int)
                · rw [if_pos c18] at H
                  have c18b0 : decide (1 < (x11_7.length : Int)) = true := decide_eq_true c18
                  have c18b1 : decide (1 < x11_7.length) = true := decide_eq_true (by omega)
                  clear c18
                  by_cases c19 : a3 = true
                  · subst c19
                    have H1 : (if 2 < (x11_7.length : Int) then (flagstonelaw42_BalanceLevel.l0 k2 true x11_7 (wrap64 (1 + (wrap64 ((Int.tmod (wrap64 (a4)) 255) * 3)))) (wrap64 (x13_2 * (wrap64 ((wrap64 ((rd x11_7 0) + (rd x11_7 1))) + (rd x11_7 2))))) (wrap64 (9 - (x11_7.length : Int))) (wrap64 (x15_2 + 1))) else (none)) = some r := by rw [if_pos rfl] at H; exact H
                    clear H
                    have H := H1
                    clear H1
                    by_cases c20 : 2 < (x11_7.length : Int)
                    · rw [if_pos c20] at H
                      have c20b0 : decide (2 < (x11_7.length : Int)) = true := decide_eq_true c20
                      have c20b1 : decide (2 < x11_7.length) = true := decide_eq_true (by omega)
                      clear c20
                      have H' := Aside0.mk H
                      clear H
                      have p244 : 0 ≤ (0 : Int) := (by omega)
                      have q244 : 0 < (x11_7.length : Int) := of_decide_eq_true (by first | (with_reducible assumption) | assumption)
                      obtain ⟨ad244, e244, hx244_0⟩ := Kd.at_int (Kd.R_reads' HO_11.out).2.2 0 p244 q244
                      cases e244
                      have qi244 : (0 < x11_7.length) = True := eq_true (by omega)
                      (try rw [show ((0 : Int)).toNat = 0 from rfl] at hx244_0)
                      (try rw [Addr.add_zero'] at hx244_0)
                      replace p244 := eq_true p244
                      replace q244 := eq_true q244
                      have p245 : 0 ≤ (1 : Int) := (by omega)
                      have q245 : 1 < (x11_7.length : Int) := of_decide_eq_true (by first | (with_reducible assumption) | assumption)
                      obtain ⟨ad245, e245, hx245_0⟩ := Kd.at_int (Kd.R_reads' HO_11.out).2.2 1 p245 q245
                      obtain rfl : ad244 = ad245 := (by injection e245)
                      (try simp only [show (1 : Int).toNat = 1 from rfl, Nat.reduceMul, Nat.reduceEqDiff, Go.Addr.add, ↓reduceIte] at hx245_0)
                      have qi245 : (1 < x11_7.length) = True := eq_true (by omega)
                      (try rw [show ((1 : Int)).toNat = 1 from rfl] at hx245_0)
                      replace p245 := eq_true p245
                      replace q245 := eq_true q245
                      have p246 : 0 ≤ (2 : Int) := (by omega)
                      have q246 : 2 < (x11_7.length : Int) := of_decide_eq_true (by first | (with_reducible assumption) | assumption)
                      obtain ⟨ad246, e246, hx246_0⟩ := Kd.at_int (Kd.R_reads' HO_11.out).2.2 2 p246 q246
                      obtain rfl : ad244 = ad246 := (by injection e246)
                      (try simp only [show (2 : Int).toNat = 2 from rfl, Nat.reduceMul, Nat.reduceEqDiff, Go.Addr.add, ↓reduceIte] at hx246_0)
                      have qi246 : (2 < x11_7.length) = True := eq_true (by omega)
                      (try rw [show ((2 : Int)).toNat = 2 from rfl] at hx246_0)
                      replace p246 := eq_true p246
                      replace q246 := eq_true q246
                      go_wp2
                      repeat (go_quiet (fail); try go_wp2)
                      go_roundg k2
                      case measure => have := HJ7.out; have := HK2.out; omega
                      case rel => exact ⟨(wrap64 (x13_2 * (wrap64 ((wrap64 ((rd x11_7 0) + (rd x11_7 1))) + (rd x11_7 2))))), (wrap64 (x15_2 + 1)), (by first | rfl | (simp; done) | (simp [*]; done) | exact congrArg (Value.int _) (by unfold wrap64; omega)), (by first | rfl | (simp; done) | (simp [*]; done) | exact congrArg (Value.int _) (by unfold wrap64; omega)), H', ⟨by have := HJ7.out; have := HK2.out; omega⟩, ⟨by (with_reducible repeat (first | apply Kd.R_alloc | apply Kd.R_drewN | apply Kd.R_drew)); exact HO_11.out⟩, ⟨by repeat (first | (with_reducible first | exact HB.out | apply below_alloc | apply pw_below_drewN | apply below_drew1) | exact HB.out)⟩⟩
                    · rw [if_neg c20] at H
                      exact absurd H (by simp)
                  · replace c19 := Bool.eq_false_iff.mpr c19
                    subst c19
                    have H1 : (flagstonelaw42_BalanceLevel.l0 k2 false x11_7 (wrap64 (1 + (wrap64 ((Int.tmod (wrap64 (a4)) 255) * 3)))) (wrap64 (x13_2 * (wrap64 ((rd x11_7 0) + (rd x11_7 1))))) (wrap64 (9 - (x11_7.length : Int))) (wrap64 (x15_2 + 1))) = some r := by rw [if_neg (show ¬ (false = true) by decide)] at H; exact H
                    clear H
                    have H := H1
                    clear H1
                    have H' := Aside0.mk H
                    clear H
                    have p244 : 0 ≤ (0 : Int) := (by omega)
                    have q244 : 0 < (x11_7.length : Int) := of_decide_eq_true (by first | (with_reducible assumption) | assumption)
                    obtain ⟨ad244, e244, hx244_0⟩ := Kd.at_int (Kd.R_reads' HO_11.out).2.2 0 p244 q244
                    cases e244
                    have qi244 : (0 < x11_7.length) = True := eq_true (by omega)
                    (try rw [show ((0 : Int)).toNat = 0 from rfl] at hx244_0)
                    (try rw [Addr.add_zero'] at hx244_0)
                    replace p244 := eq_true p244
                    replace q244 := eq_true q244
                    have p245 : 0 ≤ (1 : Int) := (by omega)
                    have q245 : 1 < (x11_7.length : Int) := of_decide_eq_true (by first | (with_reducible assumption) | assumption)
                    obtain ⟨ad245, e245, hx245_0⟩ := Kd.at_int (Kd.R_reads' HO_11.out).2.2 1 p245 q245
                    obtain rfl : ad244 = ad245 := (by injection e245)
                    (try simp only [show (1 : Int).toNat = 1 from rfl, Nat.reduceMul, Nat.reduceEqDiff, Go.Addr.add, ↓reduceIte] at hx245_0)
                    have qi245 : (1 < x11_7.length) = True := eq_true (by omega)
                    (try rw [show ((1 : Int)).toNat = 1 from rfl] at hx245_0)
                    replace p245 := eq_true p245
                    replace q245 := eq_true q245
                    go_wp2
                    repeat (go_quiet (fail); try go_wp2)
                    go_roundg k2
                    case measure => have := HJ7.out; have := HK2.out; omega
                    case rel => exact ⟨(wrap64 (x13_2 * (wrap64 ((rd x11_7 0) + (rd x11_7 1))))), (wrap64 (x15_2 + 1)), (by first | rfl | (simp; done) | (simp [*]; done) | exact congrArg (Value.int _) (by unfold wrap64; omega)), (by first | rfl | (simp; done) | (simp [*]; done) | exact congrArg (Value.int _) (by unfold wrap64; omega)), H', ⟨by have := HJ7.out; have := HK2.out; omega⟩, ⟨by (with_reducible repeat (first | apply Kd.R_alloc | apply Kd.R_drewN | apply Kd.R_drew)); exact HO_11.out⟩, ⟨by repeat (first | (with_reducible first | exact HB.out | apply below_alloc | apply pw_below_drewN | apply below_drew1) | exact HB.out)⟩⟩
                · rw [if_neg c18] at H
                  exact absurd H (by simp)
              · rw [if_neg c17] at H
                exact absurd H (by simp)
            · rw [if_neg c16] at H
              have c16b0 : decide (x15_2 < (wrap64 (9 - (x11_7.length : Int)))) = false := decide_eq_false c16
              clear c16
              by_cases c21 : (wrap64 (1 + (wrap64 ((Int.tmod (wrap64 (a4)) 255) * 3)))) = 0
              · rw [if_pos c21] at H
                exact absurd H (by simp)
              · rw [if_neg c21] at H
                have c21b0 : ((wrap64 (1 + (wrap64 ((Int.tmod (wrap64 (a4)) 255) * 3)))) == 0) = false := beq_eq_false_iff_ne.mpr c21
                have c21b1 : ((wrap64 (1 + (wrap64 ((Int.tmod (wrap64 (a4)) 255) * 3)))) != 0) = true := bne_iff_ne.mpr c21
                by_cases c22 : 0 ≤ (x11_7.length : Int)
                · rw [if_pos c22] at H
                  have c22b0 := eq_true c22
                  have c22b1 : decide (0 ≤ (x11_7.length : Int)) = true := decide_eq_true c22
                  clear c22
                  by_cases c23 : ((x11_7.length : Int) : Int).toNat ≤ 35184372088832
                  · rw [if_pos c23] at H
                    have c23b0 := eq_true c23
                    have c23b1 : decide (((x11_7.length : Int) : Int).toNat ≤ 35184372088832) = true := decide_eq_true c23
                    clear c23
                    obtain ⟨y240, hy240⟩ : ∃ y_ : List Int, y_ = (List.replicate ((x11_7.length : Int) : Int).toNat 0) := ⟨_, rfl⟩
                    replace H : ((flagstonelaw42_reaches.f k2 4294967296 y240 x11_7 (wrap64 (9 - (x11_7.length : Int))) (wrap64 (Int.tdiv (wrap64 ((wrap64 (4294967296000 + (wrap64 (1 + (wrap64 ((Int.tmod (wrap64 (a4)) 255) * 3)))))) - 1)) (wrap64 (1 + (wrap64 ((Int.tmod (wrap64 (a4)) 255) * 3))))))).bind fun t243 => (some (decide ((wrap64 (t243 * 1000)) ≤ (wrap64 ((wrap64 (1 + (wrap64 ((Int.tmod (wrap64 (a4)) 255) * 3)))) * x13_2)))))) = some r := by first | (rw [hy240]; with_reducible exact H) | (have H2_ := (Option.bind_some _ _).symm.trans H; rw [hy240]; with_reducible exact H2_) | (have H2_ := (Option.bind_some _ _).symm.trans H; with_reducible exact H2_) | with_reducible exact H | (rw [hy240]; exact H) | exact H
                    have Ny240 := Aside0.mk hy240
                    clear hy240
                    replace H := Option.bind_eq_some_iff.mp H
                    obtain ⟨t243, A240, H⟩ := H
                    replace H : (some (decide ((wrap64 (t243 * 1000)) ≤ (wrap64 ((wrap64 (1 + (wrap64 ((Int.tmod (wrap64 (a4)) 255) * 3)))) * x13_2))))) = some r := H
                    have A24 := Aside0.mk A240
                    clear A240
                    obtain rfl := Option.some.inj H
                    go_wp2_with (first | ((with_reducible refine gate_dst (N := 73) rfl ?_); refine Kd.R_make (Kd.int .i64) _ 3 rfl (N := 73) rfl 22 _ _ rfl (x11_7.length : Int) rfl rfl Try.underlying22 (.int .i64 0) 8 info3 rfl (by decide) (by omega) 0 (ok := fun _ => True) (okp := fun _ => True) rfl (fun _ hk => hk) trivial (of_decide_eq_true (by first | (with_reducible assumption) | assumption)) (Nat.le_trans (Nat.mul_le_mul_right _ (of_decide_eq_true (by first | (with_reducible assumption) | assumption) : (x11_7.length : Int).toNat ≤ 35184372088832)) (by omega)) (Below.refl _ _) (Nat.le_refl _) ?_; intro v241 w25 ho26 hb hg_ hnew_; clear hg_ hnew_; (first | rw [← Ny240.out] at ho26 | (simp only [Int.reduceToNat] at ho26; rw [← Ny240.out] at ho26)); have n0_ := Aside0.mk (Kd.R_elder' (by (with_reducible repeat (first | apply Kd.R_alloc | apply Kd.R_drewN | apply Kd.R_drew)); exact HO_11.out) (Kd.R_base ho26) hb); have n1_ := Aside0.mk (Kd.R_lower (Kd.R_new' ho26 (Kd.R_lt (by (with_reducible repeat (first | apply Kd.R_alloc | apply Kd.R_drewN | apply Kd.R_drew)); exact HO_11.out))) (below_size (by repeat (first | (with_reducible first | exact HB.out | apply below_alloc | apply pw_below_drewN | apply below_drew1) | exact HB.out)))); have n2_ := Aside0.mk (below_step (by repeat (first | (with_reducible first | exact HB.out | apply below_alloc | apply pw_below_drewN | apply below_drew1) | exact HB.out)) hb); clear HO_11; clear HB; have HO_11 := n0_; have HO242 := n1_; have HB := n2_; clear n0_ n1_ n2_; clear hb ho26; obtain ⟨Ao27, co27, eo27⟩ := Kd.R_slice HO242.out; subst eo27) | (go_at_call 12; (with_reducible refine (flagstonelaw42_reaches.calls k2 4294967296 _ _ y240 _ _ x11_7 (wrap64 (9 - (x11_7.length : Int))) (wrap64 (Int.tdiv (wrap64 ((wrap64 (4294967296000 + (wrap64 (1 + (wrap64 ((Int.tmod (wrap64 (a4)) 255) * 3)))))) - 1)) (wrap64 (1 + (wrap64 ((Int.tmod (wrap64 (a4)) 255) * 3)))))) t243 _ ?side1 ?side2 ?side3 ?side4 A24.out).mono ?_); (case side1 => repeat (first | exact (Kd.R_reads' HO242.out).2.2 | (with_reducible refine Kd.C_alloc ?_ _) | (with_reducible refine Kd.C_drewN ?_ _) | (with_reducible refine Kd.C_drew ?_))); (case side2 => exact (Kd.R_reads' HO242.out).2.1); (case side3 => repeat (first | exact (Kd.R_reads' HO_11.out).2.2 | (with_reducible refine Kd.C_alloc ?_ _) | (with_reducible refine Kd.C_drewN ?_ _) | (with_reducible refine Kd.C_drew ?_))); (case side4 => exact (Kd.R_reads' HO_11.out).2.1); rintro e w28 ⟨rfl, hb⟩; have n0_ := Aside0.mk (Kd.R_below (by (with_reducible repeat (first | apply Kd.R_alloc | apply Kd.R_drewN | apply Kd.R_drew)); exact HO_11.out) hb); have n1_ := Aside0.mk (Kd.R_below (by (with_reducible repeat (first | apply Kd.R_alloc | apply Kd.R_drewN | apply Kd.R_drew)); exact HO242.out) hb); have n2_ := Aside0.mk (below_step (by repeat (first | (with_reducible first | exact HB.out | apply below_alloc | apply pw_below_drewN | apply below_drew1) | exact HB.out)) hb); clear HO_11; clear HO242; clear HB; have HO_11 := n0_; have HO242 := n1_; have HB := n2_; clear n0_ n1_ n2_; (try clear hb); (try clear hb2); (try clear hk); (try clear hi)))
                    repeat (go_quiet (first | ((with_reducible refine gate_dst (N := 73) rfl ?_); refine Kd.R_make (Kd.int .i64) _ 3 rfl (N := 73) rfl 22 _ _ rfl (x11_7.length : Int) rfl rfl Try.underlying22 (.int .i64 0) 8 info3 rfl (by decide) (by omega) 0 (ok := fun _ => True) (okp := fun _ => True) rfl (fun _ hk => hk) trivial (of_decide_eq_true (by first | (with_reducible assumption) | assumption)) (Nat.le_trans (Nat.mul_le_mul_right _ (of_decide_eq_true (by first | (with_reducible assumption) | assumption) : (x11_7.length : Int).toNat ≤ 35184372088832)) (by omega)) (Below.refl _ _) (Nat.le_refl _) ?_; intro v241 w25 ho26 hb hg_ hnew_; clear hg_ hnew_; (first | rw [← Ny240.out] at ho26 | (simp only [Int.reduceToNat] at ho26; rw [← Ny240.out] at ho26)); have n0_ := Aside0.mk (Kd.R_elder' (by (with_reducible repeat (first | apply Kd.R_alloc | apply Kd.R_drewN | apply Kd.R_drew)); exact HO_11.out) (Kd.R_base ho26) hb); have n1_ := Aside0.mk (Kd.R_lower (Kd.R_new' ho26 (Kd.R_lt (by (with_reducible repeat (first | apply Kd.R_alloc | apply Kd.R_drewN | apply Kd.R_drew)); exact HO_11.out))) (below_size (by repeat (first | (with_reducible first | exact HB.out | apply below_alloc | apply pw_below_drewN | apply below_drew1) | exact HB.out)))); have n2_ := Aside0.mk (below_step (by repeat (first | (with_reducible first | exact HB.out | apply below_alloc | apply pw_below_drewN | apply below_drew1) | exact HB.out)) hb); clear HO_11; clear HB; have HO_11 := n0_; have HO242 := n1_; have HB := n2_; clear n0_ n1_ n2_; clear hb ho26; obtain ⟨Ao27, co27, eo27⟩ := Kd.R_slice HO242.out; subst eo27) | (go_at_call 12; (with_reducible refine (flagstonelaw42_reaches.calls k2 4294967296 _ _ y240 _ _ x11_7 (wrap64 (9 - (x11_7.length : Int))) (wrap64 (Int.tdiv (wrap64 ((wrap64 (4294967296000 + (wrap64 (1 + (wrap64 ((Int.tmod (wrap64 (a4)) 255) * 3)))))) - 1)) (wrap64 (1 + (wrap64 ((Int.tmod (wrap64 (a4)) 255) * 3)))))) t243 _ ?side1 ?side2 ?side3 ?side4 A24.out).mono ?_); (case side1 => repeat (first | exact (Kd.R_reads' HO242.out).2.2 | (with_reducible refine Kd.C_alloc ?_ _) | (with_reducible refine Kd.C_drewN ?_ _) | (with_reducible refine Kd.C_drew ?_))); (case side2 => exact (Kd.R_reads' HO242.out).2.1); (case side3 => repeat (first | exact (Kd.R_reads' HO_11.out).2.2 | (with_reducible refine Kd.C_alloc ?_ _) | (with_reducible refine Kd.C_drewN ?_ _) | (with_reducible refine Kd.C_drew ?_))); (case side4 => exact (Kd.R_reads' HO_11.out).2.1); rintro e w28 ⟨rfl, hb⟩; have n0_ := Aside0.mk (Kd.R_below (by (with_reducible repeat (first | apply Kd.R_alloc | apply Kd.R_drewN | apply Kd.R_drew)); exact HO_11.out) hb); have n1_ := Aside0.mk (Kd.R_below (by (with_reducible repeat (first | apply Kd.R_alloc | apply Kd.R_drewN | apply Kd.R_drew)); exact HO242.out) hb); have n2_ := Aside0.mk (below_step (by repeat (first | (with_reducible first | exact HB.out | apply below_alloc | apply pw_below_drewN | apply below_drew1) | exact HB.out)) hb); clear HO_11; clear HO242; clear HB; have HO_11 := n0_; have HO242 := n1_; have HB := n2_; clear n0_ n1_ n2_; (try clear hb); (try clear hb2); (try clear hk); (try clear hi))); try go_wp2_with (first | ((with_reducible refine gate_dst (N := 73) rfl ?_); refine Kd.R_make (Kd.int .i64) _ 3 rfl (N := 73) rfl 22 _ _ rfl (x11_7.length : Int) rfl rfl Try.underlying22 (.int .i64 0) 8 info3 rfl (by decide) (by omega) 0 (ok := fun _ => True) (okp := fun _ => True) rfl (fun _ hk => hk) trivial (of_decide_eq_true (by first | (with_reducible assumption) | assumption)) (Nat.le_trans (Nat.mul_le_mul_right _ (of_decide_eq_true (by first | (with_reducible assumption) | assumption) : (x11_7.length : Int).toNat ≤ 35184372088832)) (by omega)) (Below.refl _ _) (Nat.le_refl _) ?_; intro v241 w25 ho26 hb hg_ hnew_; clear hg_ hnew_; (first | rw [← Ny240.out] at ho26 | (simp only [Int.reduceToNat] at ho26; rw [← Ny240.out] at ho26)); have n0_ := Aside0.mk (Kd.R_elder' (by (with_reducible repeat (first | apply Kd.R_alloc | apply Kd.R_drewN | apply Kd.R_drew)); exact HO_11.out) (Kd.R_base ho26) hb); have n1_ := Aside0.mk (Kd.R_lower (Kd.R_new' ho26 (Kd.R_lt (by (with_reducible repeat (first | apply Kd.R_alloc | apply Kd.R_drewN | apply Kd.R_drew)); exact HO_11.out))) (below_size (by repeat (first | (with_reducible first | exact HB.out | apply below_alloc | apply pw_below_drewN | apply below_drew1) | exact HB.out)))); have n2_ := Aside0.mk (below_step (by repeat (first | (with_reducible first | exact HB.out | apply below_alloc | apply pw_below_drewN | apply below_drew1) | exact HB.out)) hb); clear HO_11; clear HB; have HO_11 := n0_; have HO242 := n1_; have HB := n2_; clear n0_ n1_ n2_; clear hb ho26; obtain ⟨Ao27, co27, eo27⟩ := Kd.R_slice HO242.out; subst eo27) | (go_at_call 12; (with_reducible refine (flagstonelaw42_reaches.calls k2 4294967296 _ _ y240 _ _ x11_7 (wrap64 (9 - (x11_7.length : Int))) (wrap64 (Int.tdiv (wrap64 ((wrap64 (4294967296000 + (wrap64 (1 + (wrap64 ((Int.tmod (wrap64 (a4)) 255) * 3)))))) - 1)) (wrap64 (1 + (wrap64 ((Int.tmod (wrap64 (a4)) 255) * 3)))))) t243 _ ?side1 ?side2 ?side3 ?side4 A24.out).mono ?_); (case side1 => repeat (first | exact (Kd.R_reads' HO242.out).2.2 | (with_reducible refine Kd.C_alloc ?_ _) | (with_reducible refine Kd.C_drewN ?_ _) | (with_reducible refine Kd.C_drew ?_))); (case side2 => exact (Kd.R_reads' HO242.out).2.1); (case side3 => repeat (first | exact (Kd.R_reads' HO_11.out).2.2 | (with_reducible refine Kd.C_alloc ?_ _) | (with_reducible refine Kd.C_drewN ?_ _) | (with_reducible refine Kd.C_drew ?_))); (case side4 => exact (Kd.R_reads' HO_11.out).2.1); rintro e w28 ⟨rfl, hb⟩; have n0_ := Aside0.mk (Kd.R_below (by (with_reducible repeat (first | apply Kd.R_alloc | apply Kd.R_drewN | apply Kd.R_drew)); exact HO_11.out) hb); have n1_ := Aside0.mk (Kd.R_below (by (with_reducible repeat (first | apply Kd.R_alloc | apply Kd.R_drewN | apply Kd.R_drew)); exact HO242.out) hb); have n2_ := Aside0.mk (below_step (by repeat (first | (with_reducible first | exact HB.out | apply below_alloc | apply pw_below_drewN | apply below_drew1) | exact HB.out)) hb); clear HO_11; clear HO242; clear HB; have HO_11 := n0_; have HO242 := n1_; have HB := n2_; clear n0_ n1_ n2_; (try clear hb); (try clear hb2); (try clear hk); (try clear hi))))
                    go_ret
                    exact ⟨by first | rfl | (simp [errW_none, errW_some] <;> rfl) | (simp [*, errW_none, errW_some] <;> rfl), by repeat (first | (with_reducible first | exact HB.out | apply below_alloc | apply pw_below_drewN | apply below_drew1) | exact HB.out)⟩
                  · rw [if_neg c23] at H
                    exact absurd H (by simp)
                · rw [if_neg c22] at H
                  exact absurd H (by simp)
  · replace c7 := Bool.eq_false_iff.mpr c7
    subst c7
    have H1 : (some false) = some r := by rw [if_neg (show ¬ (false = true) by decide)] at H; exact H
    clear H
    have H := H1
    clear H1
    obtain rfl := Option.some.inj H
    go_enter Try.func5, Try.ntmps5
    go_wp2_with (first | (go_at_call 8; (with_reducible refine (flagstonelaw42_awake.calls k  false _ A6.out).mono ?_); rintro e w29 ⟨rfl, hb⟩; have n0_ := Aside0.mk (below_step (by repeat (first | (with_reducible first | exact HB.out | apply below_alloc | apply pw_below_drewN | apply below_drew1) | exact HB.out)) hb); clear HB; have HB := n0_; clear n0_; (try clear hb); (try clear hb2); (try clear hk); (try clear hi)))
    repeat (go_quiet (first | (go_at_call 8; (with_reducible refine (flagstonelaw42_awake.calls k  false _ A6.out).mono ?_); rintro e w29 ⟨rfl, hb⟩; have n0_ := Aside0.mk (below_step (by repeat (first | (with_reducible first | exact HB.out | apply below_alloc | apply pw_below_drewN | apply below_drew1) | exact HB.out)) hb); clear HB; have HB := n0_; clear n0_; (try clear hb); (try clear hb2); (try clear hk); (try clear hi))); try go_wp2_with (first | (go_at_call 8; (with_reducible refine (flagstonelaw42_awake.calls k  false _ A6.out).mono ?_); rintro e w29 ⟨rfl, hb⟩; have n0_ := Aside0.mk (below_step (by repeat (first | (with_reducible first | exact HB.out | apply below_alloc | apply pw_below_drewN | apply below_drew1) | exact HB.out)) hb); clear HB; have HB := n0_; clear n0_; (try clear hb); (try clear hb2); (try clear hk); (try clear hi))))
    go_ret
    exact ⟨by first | rfl | (simp [errW_none, errW_some] <;> rfl) | (simp [*, errW_none, errW_some] <;> rfl), by repeat (first | (with_reducible first | exact HB.out | apply below_alloc | apply pw_below_drewN | apply below_drew1) | exact HB.out)⟩

/-- THE ONE PURE STATEMENT of flagstonelaw42_BalanceLevel: yours. -/
def flagstonelaw42_BalanceLevel.Pure : Prop := ∀ (a0 : Int) (a1 : Int) (a2 : Int) (a3 : Bool) (a4 : Int), (Lit.int .u8 a0).wf = true → (Lit.int .u8 a1).wf = true → (Lit.int .u8 a2).wf = true → (Lit.int .u8 a4).wf = true → ∃ k, flagstonelaw42_BalanceLevel.f k a0 a1 a2 a3 a4 = some true
theorem flagstonelaw42_BalanceLevel.walk (P : flagstonelaw42_BalanceLevel.Pure) (a0 : Int) (a1 : Int) (a2 : Int) (a3 : Bool) (a4 : Int) (w : World) (w0 : (Lit.int .u8 a0).wf = true) (w1 : (Lit.int .u8 a1).wf = true) (w2 : (Lit.int .u8 a2).wf = true) (w4 : (Lit.int .u8 a4).wf = true) :
    Calls Try.prog 5 #[.int .u8 a0, .int .u8 a1, .int .u8 a2, .bool a3, .int .u8 a4] w fun e w' => e = .returned (.bool true) ∧ Below w.heap.size w w' := by
  obtain ⟨k, h⟩ := P a0 a1 a2 a3 a4 w0 w1 w2 w4
  refine (flagstonelaw42_BalanceLevel.calls k a0 a1 a2 a3 a4 true w h).mono ?_
  rintro e w' ⟨rfl, hd⟩
  exact ⟨rfl, hd⟩

/-- A state of type 57 at block g of W; what its slices lead to came in by w0. -/
def IsS57 (w0 W : World) (g : Nat) (f0 : List Int) (f1 : Int) : Prop := ∃ A0 c0, W.heap[g]? = some (.cells #[.slice A0 f0.length c0, .int .i64 f1] 57 (0, 0)) ∧ w0.heap.size ≤ g ∧ Kd.C (Kd.int .u8) w0 A0 f0.length f0
theorem IsS57.grown {w0 W : World} {g : Nat} {f0 : List Int} {f1 : Int} {W1 : World} {row : Option Nat} (h : IsS57 w0 W g f0 f1) (hw : W.grownBy W1 row) (hne : some g ≠ row) : IsS57 w0 W1 g f0 f1 := by
  obtain ⟨A0, c0, hb, hg, hr0⟩ := h
  exact ⟨A0, c0, blk_grown hb hw hne, hg, hr0⟩
theorem IsS57.own_neN {w0 W : World} {g : Nat} {f0 : List Int} {f1 : Int} {α : Type} {d : Kd α} {e : Nat} {base : Nat} {ok : Nat → Prop} {v : Value} {xs : List α} (h : IsS57 w0 W g f0 f1) (ho : Kd.N d e W base ok v xs) (ht : e ≠ 57) : some g ≠ v.ownBlock := by
  obtain ⟨A0, c0, hb, hg, hr0⟩ := h
  exact Kd.N_ne ho hb ht
theorem IsS57.fresh {w0 W : World} {g : Nat} {f0 : List Int} {f1 : Int} (h : IsS57 w0 W g f0 f1) : ∀ k, W.heap.size ≤ k → k ≠ g := by
  obtain ⟨A0, c0, hb, hg, hr0⟩ := h
  exact Kd.freshB hb
theorem IsS57.kept {w0 W : World} {g : Nat} {f0 : List Int} {f1 : Int} {W1 : World} {S : Nat → Prop} (h : IsS57 w0 W g f0 f1) (hk : Kept W W1 S) (hne : ¬ S g) : IsS57 w0 W1 g f0 f1 := by
  obtain ⟨A0, c0, hb, hg, hr0⟩ := h
  exact ⟨A0, c0, blk_kept hb hk hne, hg, hr0⟩
theorem IsS57.below {w0 W : World} {g : Nat} {f0 : List Int} {f1 : Int} {W1 : World} (h : IsS57 w0 W g f0 f1) (hw : Below W.heap.size W W1) : IsS57 w0 W1 g f0 f1 := h.grown (grown_of_below hw none) (by simp)
theorem IsS57.alloc {w0 W : World} {g : Nat} {f0 : List Int} {f1 : Int} (h : IsS57 w0 W g f0 f1) (o : Obj) : IsS57 w0 (W.alloc o) g f0 f1 := h.below (below_alloc (Below.refl _ _) o)
theorem IsS57.drewN {w0 W : World} {g : Nat} {f0 : List Int} {f1 : Int} (h : IsS57 w0 W g f0 f1) (m : Nat) : IsS57 w0 (W.drewN m) g f0 f1 := h
theorem IsS57.drew {w0 W : World} {g : Nat} {f0 : List Int} {f1 : Int} (h : IsS57 w0 W g f0 f1) : IsS57 w0 W.drew g f0 f1 := h
theorem IsS57.at_ {w0 W : World} {g : Nat} {f0 : List Int} {f1 : Int} {w' : World} {m : Nat} (hq : W.drewN m = w') (h : IsS57 w0 W g f0 f1) : IsS57 w0 w' g f0 f1 := by subst hq; exact IsS57.drewN h m
theorem IsS57.apart {w0 W : World} {g : Nat} {f0 : List Int} {f1 : Int} {α : Type} {d : Kd α} {e : Nat} {base : Nat} {ok : Nat → Prop} {v : Value} {xs : List α} (h : IsS57 w0 W g f0 f1) (ho : d.R e W base ok v xs) (ht : ∀ q, q ∈ e :: d.E → q ≠ 57) : d.R e W base (fun k => ok k ∧ k ≠ g) v xs := by
  obtain ⟨A0, c0, hb, hg, hr0⟩ := h
  exact Kd.R_types ho hb ht
theorem IsS57.own_ne {w0 W : World} {g : Nat} {f0 : List Int} {f1 : Int} {α : Type} {d : Kd α} {e : Nat} {base : Nat} {ok : Nat → Prop} {v : Value} {xs : List α} (h : IsS57 w0 W g f0 f1) (ho : d.R e W base ok v xs) (ht : e ≠ 57) : some g ≠ v.ownBlock := by
  obtain ⟨A0, c0, hb, hg, hr0⟩ := h
  exact Kd.R_ne ho hb ht
theorem IsS57.apartQ {w0 W : World} {g : Nat} {f0 : List Int} {f1 : Int} {α : Type} {d : Kd α} {e : Nat} {base : Nat} {ok : Nat → Prop} {v : Value} {xs : List α} (h : IsS57 w0 W g f0 f1) (ho : d.Q e W base ok v xs) (ht : ∀ q, q ∈ e :: d.E → q ≠ 57) : d.Q e W base (fun k => ok k ∧ k ≠ g) v xs := by
  obtain ⟨A0, c0, hb, hg, hr0⟩ := h
  exact Kd.Q_types ho hb ht
theorem IsS57.own_neQ {w0 W : World} {g : Nat} {f0 : List Int} {f1 : Int} {α : Type} {d : Kd α} {e : Nat} {base : Nat} {ok : Nat → Prop} {v : Value} {xs : List α} (h : IsS57 w0 W g f0 f1) (ho : d.Q e W base ok v xs) (ht : e ≠ 57) : some g ≠ v.ownBlock := by
  obtain ⟨A0, c0, hb, hg, hr0⟩ := h
  exact Kd.Q_ne ho hb ht
theorem IsS57.apartS {w0 W : World} {g : Nat} {f0 : List Int} {f1 : Int} {α : Type} {d : Kd α} {e : Nat} {base : Nat} {ok : Nat → Prop} {v : Value} {xs : List α} (h : IsS57 w0 W g f0 f1) (ho : d.S e W base ok v xs) (ht : ∀ q, q ∈ e :: d.E → q ≠ 57) : d.S e W base (fun k => ok k ∧ k ≠ g) v xs := by
  obtain ⟨A0, c0, hb, hg, hr0⟩ := h
  exact Kd.S_types ho hb ht
theorem IsS57.own_neS {w0 W : World} {g : Nat} {f0 : List Int} {f1 : Int} {α : Type} {d : Kd α} {e : Nat} {base : Nat} {ok : Nat → Prop} {v : Value} {xs : List α} (h : IsS57 w0 W g f0 f1) (ho : d.S e W base ok v xs) (ht : e ≠ 57) : some g ≠ v.ownBlock := by
  obtain ⟨A0, c0, hb, hg, hr0⟩ := h
  exact Kd.S_ne ho hb ht
theorem IsS57.lt {w0 W : World} {g : Nat} {f0 : List Int} {f1 : Int} (h : IsS57 w0 W g f0 f1) : g < W.heap.size := by
  obtain ⟨A0, c0, hb, hg, hr0⟩ := h
  exact blk_lt hb
theorem IsS57.ge {w0 W : World} {g : Nat} {f0 : List Int} {f1 : Int} (h : IsS57 w0 W g f0 f1) : w0.heap.size ≤ g := by
  obtain ⟨A0, c0, hb, hg, hr0⟩ := h
  exact hg
theorem IsS57.ne_blk {w0 W : World} {g : Nat} {f0 : List Int} {f1 : Int} {a : Nat} {cs : Array Value} {t : TypeId} {fr : Nat × Nat} (h : IsS57 w0 W g f0 f1) (hb2 : W.heap[a]? = some (.cells cs t fr)) (ht : t ≠ 57) : g ≠ a := by
  obtain ⟨A0, c0, hb, hg, hr0⟩ := h
  rintro rfl
  rw [hb] at hb2
  injection hb2 with hb2
  injection hb2 with _ ht2
  exact ht ht2.symm
theorem IsS57.far {w0 W : World} {g : Nat} {f0 : List Int} {f1 : Int} {p : Addr} (h : IsS57 w0 W g f0 f1) (hne : g ≠ p.block) (u : Value) : IsS57 w0 (W.setCell p u) g f0 f1 := by
  obtain ⟨A0, c0, hb, hg, hr0⟩ := h
  exact ⟨A0, c0, blk_far hb hne u, hg, hr0⟩
theorem cellS57_0 {W : World} {g : Nat} {A0 : Option Addr} {c0 : Nat} {f0 : List Int} {f1 : Int} (h : W.heap[g]? = some (.cells #[.slice A0 f0.length c0, .int .i64 f1] 57 (0, 0))) : W.cell? ⟨g, 0, none⟩ = some (.slice A0 f0.length c0) := (blk_cell h 0).trans rfl
theorem cellS57_1 {W : World} {g : Nat} {A0 : Option Addr} {c0 : Nat} {f0 : List Int} {f1 : Int} (h : W.heap[g]? = some (.cells #[.slice A0 f0.length c0, .int .i64 f1] 57 (0, 0))) : W.cell? ⟨g, 1, none⟩ = some (.int .i64 f1) := (blk_cell h 1).trans rfl
theorem IsS57.set_1 {w0 W : World} {g : Nat} {f0 : List Int} {f1 : Int} (h : IsS57 w0 W g f0 f1) (x : Int) : IsS57 w0 (W.setCell ⟨g, 1, none⟩ (.int .i64 x)) g f0 x := by
  obtain ⟨A0, c0, hb, hg, hr0⟩ := h
  exact ⟨A0, c0, by simpa using blk_set hb 1 (.int .i64 x), hg, hr0⟩
theorem IsS57.new (w0 W : World) (A0 : Option Addr) (c0 : Nat) (f0 : List Int) (f1 : Int) (hB : Below w0.heap.size w0 W) (hr0 : Kd.C (Kd.int .u8) w0 A0 f0.length f0) : IsS57 w0 (W.alloc (.cells #[.slice A0 f0.length c0, .int .i64 f1] 57)) W.heap.size f0 f1 := ⟨A0, c0, by simpa using heap_alloc_new W _, hB.size, hr0⟩

/-! ### flagstonedata_Source_More: function 25 -/
def flagstonedata_Source_More.f (s0_0 : List Int) (s0_1 : Int) : Option (Bool × Int) := some (decide (s0_1 < (s0_0.length : Int)), s0_1)
set_option maxHeartbeats 8000000 in
set_option maxRecDepth 100000 in
theorem flagstonedata_Source_More.calls (g : Nat) (s0_0 : List Int) (s0_1 : Int) (r1 : Bool) (r2 : Int) (w0 w : World) (hI : IsS57 w0 w g s0_0 s0_1) (hB : Below w0.heap.size w0 w) (h : flagstonedata_Source_More.f s0_0 s0_1 = some (r1, r2)) :
    Calls Try.prog 25 #[.pointer (some ⟨g, 0, none⟩)] w fun e w' => e = .returned (.bool r1) ∧ IsS57 w0 w' g s0_0 r2 ∧ Below w0.heap.size w0 w' ∧ KeepBut w w' g none := by
  have HI0 := Aside0.mk hI
  have HK := Aside0.mk (KeepBut.refl w g none)
  have HL := Aside0.mk hB.size
  clear hI
  have HW0 := Aside0.mk hB.size
  have HB := Aside0.mk hB
  clear hB
  have H : (some (decide (s0_1 < (s0_0.length : Int)), s0_1)) = some (r1, r2) := h
  clear h
  simp only [Option.some.injEq, Prod.mk.injEq] at H
  obtain ⟨rfl, rfl⟩ := H
  obtain ⟨ASz2_0, cSz2_0, HGz2, hgz2, HSz2_0⟩ := HI0.out
  have hcz2_0 := cellS57_0 HGz2
  have hcz2_1 := cellS57_1 HGz2
  have hfz2_1 := blk_frozen HGz2 1
  clear HGz2 hgz2
  go_enter Try.func25, Try.ntmps25
  go_wp2
  repeat (go_quiet (fail); try go_wp2)
  go_ret
  exact ⟨by first | rfl | (simp [errW_none, errW_some] <;> rfl) | (simp [*, errW_none, errW_some] <;> rfl), by repeat (first | (with_reducible first | exact HI0.out | apply IsS57.alloc | apply IsS57.drewN | apply IsS57.drew | apply IsS57.set_1) | exact HI0.out), by repeat (first | (with_reducible first | exact HB.out | apply below_alloc | apply pw_below_drewN | apply below_drew1 | refine below_set ?_ (IsS57.ge HI0.out)) | exact HB.out), by repeat (first | (with_reducible first | exact HK.out | apply KeepBut.set_ | apply keep_drewN | apply keep_drew | apply keep_alloc) | exact HK.out)⟩

end Go.Proofs.Ythkgjkmcmkpkcaa.PA
