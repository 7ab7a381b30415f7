-- Written by a program of this seat's session (wip/tools/ownprint.py, over the kit's printer) out of the translation: functions and their contracts.
import Derived.Test.YtafcnpfhihnmgaaPA0
import Derived.Test.YtafcnpfhihnmgaaPA2
namespace Go.Proofs.Ytafcnpfhihnmgaa.PA
open Go.RowKit Go.Proofs.YtafcnpfhihnmgaaW.PrintWords Go.Proofs.YtafcnpfhihnmgaaW.PrintLast Go.Proofs.YtafcnpfhihnmgaaW.PrintMore
attribute [local go_sem] max2_int min2_int max_two min_two max_three min_three max_four min_four   -- for this text's walks alone
set_option linter.unusedVariables false
set_option linter.unusedSimpArgs false

/-! ### flagstoneref40_Threshold: function 18 -/
def flagstoneref40_Threshold.j0 : Nat → Int → Int → Bool → Option (Int)
  | 0, _, _, _ => none
  | k + 1, x0, x1, x18 => if x18 = true then (some 2305843009213693953) else (if x0 = 0 then (none) else (some (wrap64 (Int.tdiv (wrap64 ((wrap64 ((wrap64 ((wrap64 (x1 * 1000)) * 4294967296)) + x0)) - 1)) x0))))
def flagstoneref40_Threshold.f (k : Nat) (a0 : Int) (a1 : Int) : Option (Int) := if a0 < 1 then (flagstoneref40_Threshold.j0 k a0 a1 true) else (if a0 > 999 then (flagstoneref40_Threshold.j0 k a0 a1 true) else (if a1 < 1 then (flagstoneref40_Threshold.j0 k a0 a1 true) else (flagstoneref40_Threshold.j0 k a0 a1 (decide (a1 > 1000)))))
theorem flagstoneref40_Threshold.mono_l : ∀ k, (∀ y0 y1 y2, LeO (flagstoneref40_Threshold.j0 k y0 y1 y2) (flagstoneref40_Threshold.j0 (k + 1) y0 y1 y2))
  | 0 => fun _ _ _ r h => by simp [flagstoneref40_Threshold.j0] at h
  | k + 1 => by
    have ih0 := flagstoneref40_Threshold.mono_l k
    · intro y0 y1 y2
      unfold flagstoneref40_Threshold.j0
      repeat' first
      | (with_reducible exact ih0 _ _ _)
      | (with_reducible exact LeO.refl _)
      | (with_reducible exact LeO.none _)
      | (with_reducible refine LeO.ite ?_ ?_)
      | (with_reducible refine LeO.bind ?_ (fun _ => ?_))
      | exact ih0 _ _ _
      | exact LeO.none _
      | refine LeO.ite ?_ ?_
      | refine LeO.bind ?_ (fun _ => ?_)
theorem flagstoneref40_Threshold.mono : ∀ a0 a1 k, LeO (flagstoneref40_Threshold.f k a0 a1) (flagstoneref40_Threshold.f (k + 1) a0 a1) := by
  intro a0 a1 k
  have ih0 := flagstoneref40_Threshold.mono_l k
  unfold flagstoneref40_Threshold.f
  repeat' first
      | (with_reducible exact ih0 _ _ _)
      | (with_reducible exact LeO.refl _)
      | (with_reducible exact LeO.none _)
      | (with_reducible refine LeO.ite ?_ ?_)
      | (with_reducible refine LeO.bind ?_ (fun _ => ?_))
      | exact ih0 _ _ _
      | exact LeO.none _
      | refine LeO.ite ?_ ?_
      | refine LeO.bind ?_ (fun _ => ?_)
set_option maxHeartbeats 8000000 in
set_option maxRecDepth 100000 in
theorem flagstoneref40_Threshold.calls (k : Nat) (a0 : Int) (a1 : Int) (r : Int) (w : World) (h : flagstoneref40_Threshold.f k a0 a1 = some r) :
    Calls Try.prog 18 #[.int .i64 a0, .int .i64 a1] w fun e w' => e = .returned (.int .i64 r) ∧ Drawn0 w w' := by
  have H : (if a0 < 1 then (flagstoneref40_Threshold.j0 k a0 a1 true) else (if a0 > 999 then (flagstoneref40_Threshold.j0 k a0 a1 true) else (if a1 < 1 then (flagstoneref40_Threshold.j0 k a0 a1 true) else (flagstoneref40_Threshold.j0 k a0 a1 (decide (a1 > 1000)))))) = some r := h
  clear h
  have HC3 := Aside0.mk H
  clear H
  go_enter Try.func18, Try.ntmps18
  go_upto_region 1 with (fail)
  go_cut [18] (fun v18 wc => ∃ (kq : Nat) (x18_2 : Bool), v18 = .bool x18_2 ∧ Aside0 (flagstoneref40_Threshold.j0 kq a0 a1 x18_2 = some r) ∧ Aside0 (kq ≤ k) ∧ Drawn0 w wc)
  case first =>
    have H := HC3.out
    clear HC3
    by_cases c4 : a0 < 1
    · rw [if_pos c4] at H
      have c4b0 : decide (a0 < 1) = true := decide_eq_true c4
      clear c4
      (first | rw [c4b0] | (simp only [i64_w, i32_w]; rw [c4b0]) | skip)
      have H' := Aside0.mk H
      clear H
      go_wp2
      go_meet
      case rel => exact ⟨_, (true), (by first | rfl | (simp; done) | (simp [*]; done)), H', ⟨by first | omega | exact Nat.le_refl _⟩, by repeat (first | exact Drawn0.refl _ | apply Drawn0.step)⟩
    · rw [if_neg c4] at H
      have c4b0 : decide (a0 < 1) = false := decide_eq_false c4
      clear c4
      (first | rw [c4b0] | (simp only [i64_w, i32_w]; rw [c4b0]) | skip)
      by_cases c5 : a0 > 999
      · rw [if_pos c5] at H
        have c5b0 : decide (999 < a0) = true := decide_eq_true c5
        clear c5
        have H' := Aside0.mk H
        clear H
        go_wp2
        go_meet
        case rel => exact ⟨_, (true), (by first | rfl | (simp; done) | (simp [*]; done)), H', ⟨by first | omega | exact Nat.le_refl _⟩, by repeat (first | exact Drawn0.refl _ | apply Drawn0.step)⟩
      · rw [if_neg c5] at H
        have c5b0 : decide (999 < a0) = false := decide_eq_false c5
        clear c5
        by_cases c6 : a1 < 1
        · rw [if_pos c6] at H
          have c6b0 : decide (a1 < 1) = true := decide_eq_true c6
          clear c6
          have H' := Aside0.mk H
          clear H
          go_wp2
          go_meet
          case rel => exact ⟨_, (true), (by first | rfl | (simp; done) | (simp [*]; done)), H', ⟨by first | omega | exact Nat.le_refl _⟩, by repeat (first | exact Drawn0.refl _ | apply Drawn0.step)⟩
        · rw [if_neg c6] at H
          have c6b0 : decide (a1 < 1) = false := decide_eq_false c6
          clear c6
          have H' := Aside0.mk H
          clear H
          go_wp2
          go_meet
          case rel => exact ⟨_, (decide (a1 > 1000)), (by first | rfl | (simp; done) | (simp [*]; done)), H', ⟨by first | omega | exact Nat.le_refl _⟩, by repeat (first | exact Drawn0.refl _ | apply Drawn0.step)⟩
  case rest =>
    clear HC3
    try clear c1
    try clear p2
    try clear c4
    try clear c4b0
    try clear c5
    try clear c5b0
    try clear c6
    try clear c6b0
    obtain ⟨kq, x18_2, rfl, HA, HJ2, ⟨mc2, rfl⟩⟩ := hcut
    cases kq with
    | zero => exact absurd HA.out (by simp [flagstoneref40_Threshold.j0])
    | succ kj2 =>
      have H := HA.out
      clear HA
      simp only [flagstoneref40_Threshold.j0] at H
      by_cases c7 : x18_2 = true
      · subst c7
        have H1 : (some 2305843009213693953) = some r := by rw [if_pos rfl] at H; exact H
        clear H
        have H := H1
        clear H1
        obtain rfl := Option.some.inj H
        go_wp2
        go_ret
        exact ⟨by first | rfl | (simp; done) | (simp [*]; done), by repeat (first | exact Drawn0.refl _ | apply Drawn0.step)⟩
      · replace c7 := Bool.eq_false_iff.mpr c7
        subst c7
        have H1 : (if a0 = 0 then (none) else (some (wrap64 (Int.tdiv (wrap64 ((wrap64 ((wrap64 ((wrap64 (a1 * 1000)) * 4294967296)) + a0)) - 1)) a0)))) = some r := by rw [if_neg (show ¬ (false = true) by decide)] at H; exact H
        clear H
        have H := H1
        clear H1
        by_cases c8 : a0 = 0
        · rw [if_pos c8] at H
          exact absurd H (by simp)
        · rw [if_neg c8] at H
          have c8b0 : (a0 == 0) = false := beq_eq_false_iff_ne.mpr c8
          have c8b1 : (a0 != 0) = true := bne_iff_ne.mpr c8
          obtain rfl := Option.some.inj H
          go_wp2
          go_ret
          exact ⟨by first | rfl | (simp; done) | (simp [*]; done), by repeat (first | exact Drawn0.refl _ | apply Drawn0.step)⟩

/-! ### wealth_First: function 19 -/
def wealth_First.l0 : Nat → Int → List Int → Int → Int → Option (Int)
  | 0, _, _, _, _ => none
  | k + 1, x1, x7, x8, x9 => if x9 < x8 then (if 0 ≤ x9 then (if x9 < (x7.length : Int) then (if (rd x7 x9) ≥ x1 then (some (wrap64 (x9 + 1))) else (wealth_First.l0 k x1 x7 x8 (wrap64 (x9 + 1)))) else (none)) else (none)) else (some 0)
def wealth_First.f (k : Nat) (l0 : List Int) (a1 : Int) : Option (Int) := wealth_First.l0 k a1 l0 (l0.length : Int) 0
theorem wealth_First.mono_l : ∀ k, (∀ y0 y1 y2 y3, LeO (wealth_First.l0 k y0 y1 y2 y3) (wealth_First.l0 (k + 1) y0 y1 y2 y3))
  | 0 => fun _ _ _ _ r h => by simp [wealth_First.l0] at h
  | k + 1 => by
    have ih0 := wealth_First.mono_l k
    · intro y0 y1 y2 y3
      unfold wealth_First.l0
      repeat' first
      | (with_reducible exact ih0 _ _ _ _)
      | (with_reducible exact LeO.refl _)
      | (with_reducible exact LeO.none _)
      | (with_reducible refine LeO.ite ?_ ?_)
      | (with_reducible refine LeO.bind ?_ (fun _ => ?_))
      | exact ih0 _ _ _ _
      | exact LeO.none _
      | refine LeO.ite ?_ ?_
      | refine LeO.bind ?_ (fun _ => ?_)
theorem wealth_First.mono : ∀ a0 a1 k, LeO (wealth_First.f k a0 a1) (wealth_First.f (k + 1) a0 a1) := by
  intro a0 a1 k
  have ih0 := wealth_First.mono_l k
  unfold wealth_First.f
  repeat' first
      | (with_reducible exact ih0 _ _ _ _)
      | (with_reducible exact LeO.refl _)
      | (with_reducible exact LeO.none _)
      | (with_reducible refine LeO.ite ?_ ?_)
      | (with_reducible refine LeO.bind ?_ (fun _ => ?_))
      | exact ih0 _ _ _ _
      | exact LeO.none _
      | refine LeO.ite ?_ ?_
      | refine LeO.bind ?_ (fun _ => ?_)
set_option maxHeartbeats 8000000 in
set_option maxRecDepth 100000 in
theorem wealth_First.calls (k : Nat) (A0 : Option Addr) (c0 : Nat) (l0 : List Int) (a1 : Int) (r : Int) (w : World) (hr0 : Kd.C (Kd.int .i64) w A0 l0.length l0) (hc0 : l0.length ≤ c0) (h : wealth_First.f k l0 a1 = some r) :
    Calls Try.prog 19 #[.slice A0 l0.length c0, .int .i64 a1] w fun e w' => e = .returned (.int .i64 r) ∧ Drawn0 w w' := by
  have HR0 := Aside0.mk hr0
  have HC0 := Aside0.mk hc0
  clear hr0 hc0
  have H : (wealth_First.l0 k a1 l0 (l0.length : Int) 0) = some r := h
  clear h
  have H' := Aside0.mk H
  clear H
  go_enter Try.func19, Try.ntmps19
  go_wp2
  go_loopg [9] k (fun kq v9 w' => ∃ (x9_1 : Int), v9 = .int .i64 x9_1 ∧ Aside0 (wealth_First.l0 kq a1 l0 (l0.length : Int) x9_1 = some r) ∧ Aside0 (kq ≤ k) ∧ Drawn0 w w')
  case atStart => exact ⟨(0), (by first | rfl | (simp; done) | (simp [*]; done)), H', ⟨Nat.le_refl _⟩, by repeat (first | exact Drawn0.refl _ | apply Drawn0.step)⟩
  case round =>
    clear H'
    try clear c1
    try clear p2
    obtain ⟨x9_1, rfl, HA, HK1, ⟨m1, rfl⟩⟩ := hrel
    cases gk with
    | zero => exact absurd HA.out (by simp [wealth_First.l0])
    | succ k1 =>
      have H := HA.out
      clear HA
      simp only [wealth_First.l0] at H
      by_cases c3 : x9_1 < (l0.length : Int)
      · rw [if_pos c3] at H
        have c3b0 : decide (x9_1 < (l0.length : Int)) = true := decide_eq_true c3
        clear c3
        by_cases c4 : 0 ≤ x9_1
        · rw [if_pos c4] at H
          have c4b0 : decide (0 ≤ x9_1) = true := decide_eq_true c4
          clear c4
          by_cases c5 : x9_1 < (l0.length : Int)
          · rw [if_pos c5] at H
            have c5b0 : decide (x9_1 < (l0.length : Int)) = true := decide_eq_true c5
            clear c5
            by_cases c6 : (rd l0 x9_1) ≥ a1
            · rw [if_pos c6] at H
              have c6b0 : decide (a1 ≤ (rd l0 x9_1)) = true := decide_eq_true c6
              clear c6
              obtain rfl := Option.some.inj H
              have p177 : 0 ≤ (x9_1 : Int) := of_decide_eq_true (by first | (with_reducible assumption) | assumption)
              have q177 : x9_1 < (l0.length : Int) := of_decide_eq_true (by first | (with_reducible assumption) | assumption)
              obtain ⟨ad177, e177, hx177_0⟩ := Kd.at_int HR0.out x9_1 p177 q177
              cases e177
              replace p177 := eq_true p177
              replace q177 := eq_true q177
              go_wp2
              go_ret
              exact ⟨by first | rfl | (simp; done) | (simp [*]; done), by repeat (first | exact Drawn0.refl _ | apply Drawn0.step)⟩
            · rw [if_neg c6] at H
              have c6b0 : decide (a1 ≤ (rd l0 x9_1)) = false := decide_eq_false c6
              clear c6
              have H' := Aside0.mk H
              clear H
              have p177 : 0 ≤ (x9_1 : Int) := of_decide_eq_true (by first | (with_reducible assumption) | assumption)
              have q177 : x9_1 < (l0.length : Int) := of_decide_eq_true (by first | (with_reducible assumption) | assumption)
              obtain ⟨ad177, e177, hx177_0⟩ := Kd.at_int HR0.out x9_1 p177 q177
              cases e177
              replace p177 := eq_true p177
              replace q177 := eq_true q177
              go_wp2
              go_roundg k1
              case measure => have := HK1.out; omega
              case rel => exact ⟨(wrap64 (x9_1 + 1)), (by first | rfl | (simp; done) | (simp [*]; done)), H', ⟨by have := HK1.out; omega⟩, by repeat (first | exact Drawn0.refl _ | apply Drawn0.step)⟩
          · rw [if_neg c5] at H
            exact absurd H (by simp)
        · rw [if_neg c4] at H
          exact absurd H (by simp)
      · rw [if_neg c3] at H
        have c3b0 : decide (x9_1 < (l0.length : Int)) = false := decide_eq_false c3
        clear c3
        obtain rfl := Option.some.inj H
        go_wp2
        go_ret
        exact ⟨by first | rfl | (simp; done) | (simp [*]; done), by repeat (first | exact Drawn0.refl _ | apply Drawn0.step)⟩

/-! ### flagstoneref40_First: function 20 -/
def flagstoneref40_First.l0 : Nat → List Int → Int → Int → Option (Int)
  | 0, _, _, _ => none
  | k + 1, x0, x1, x5 => if x5 < (x0.length : Int) then (if 0 ≤ x5 then (if (rd x0 x5) ≥ x1 then (some (wrap64 (x5 + 1))) else (flagstoneref40_First.l0 k x0 x1 (wrap64 (x5 + 1)))) else (none)) else (some 0)
def flagstoneref40_First.f (k : Nat) (l0 : List Int) (a1 : Int) : Option (Int) := flagstoneref40_First.l0 k l0 a1 0
theorem flagstoneref40_First.mono_l : ∀ k, (∀ y0 y1 y2, LeO (flagstoneref40_First.l0 k y0 y1 y2) (flagstoneref40_First.l0 (k + 1) y0 y1 y2))
  | 0 => fun _ _ _ r h => by simp [flagstoneref40_First.l0] at h
  | k + 1 => by
    have ih0 := flagstoneref40_First.mono_l k
    · intro y0 y1 y2
      unfold flagstoneref40_First.l0
      repeat' first
      | (with_reducible exact ih0 _ _ _)
      | (with_reducible exact LeO.refl _)
      | (with_reducible exact LeO.none _)
      | (with_reducible refine LeO.ite ?_ ?_)
      | (with_reducible refine LeO.bind ?_ (fun _ => ?_))
      | exact ih0 _ _ _
      | exact LeO.none _
      | refine LeO.ite ?_ ?_
      | refine LeO.bind ?_ (fun _ => ?_)
theorem flagstoneref40_First.mono : ∀ a0 a1 k, LeO (flagstoneref40_First.f k a0 a1) (flagstoneref40_First.f (k + 1) a0 a1) := by
  intro a0 a1 k
  have ih0 := flagstoneref40_First.mono_l k
  unfold flagstoneref40_First.f
  repeat' first
      | (with_reducible exact ih0 _ _ _)
      | (with_reducible exact LeO.refl _)
      | (with_reducible exact LeO.none _)
      | (with_reducible refine LeO.ite ?_ ?_)
      | (with_reducible refine LeO.bind ?_ (fun _ => ?_))
      | exact ih0 _ _ _
      | exact LeO.none _
      | refine LeO.ite ?_ ?_
      | refine LeO.bind ?_ (fun _ => ?_)
set_option maxHeartbeats 8000000 in
set_option maxRecDepth 100000 in
theorem flagstoneref40_First.calls (k : Nat) (A0 : Option Addr) (c0 : Nat) (l0 : List Int) (a1 : Int) (r : Int) (w : World) (hr0 : Kd.C (Kd.int .i64) w A0 l0.length l0) (hc0 : l0.length ≤ c0) (h : flagstoneref40_First.f k l0 a1 = some r) :
    Calls Try.prog 20 #[.slice A0 l0.length c0, .int .i64 a1] w fun e w' => e = .returned (.int .i64 r) ∧ Drawn0 w w' := by
  have HR0 := Aside0.mk hr0
  have HC0 := Aside0.mk hc0
  clear hr0 hc0
  have H : (flagstoneref40_First.l0 k l0 a1 0) = some r := h
  clear h
  have H' := Aside0.mk H
  clear H
  go_enter Try.func20, Try.ntmps20
  go_wp2
  go_loopg [5] k (fun kq v5 w' => ∃ (x5_1 : Int), v5 = .int .i64 x5_1 ∧ Aside0 (flagstoneref40_First.l0 kq l0 a1 x5_1 = some r) ∧ Aside0 (kq ≤ k) ∧ Drawn0 w w')
  case atStart => exact ⟨(0), (by first | rfl | (simp; done) | (simp [*]; done)), H', ⟨Nat.le_refl _⟩, by repeat (first | exact Drawn0.refl _ | apply Drawn0.step)⟩
  case round =>
    clear H'
    try clear c2
    try clear p2
    obtain ⟨x5_1, rfl, HA, HK1, ⟨m1, rfl⟩⟩ := hrel
    cases gk with
    | zero => exact absurd HA.out (by simp [flagstoneref40_First.l0])
    | succ k1 =>
      have H := HA.out
      clear HA
      simp only [flagstoneref40_First.l0] at H
      by_cases c3 : x5_1 < (l0.length : Int)
      · rw [if_pos c3] at H
        have c3b0 : decide (x5_1 < (l0.length : Int)) = true := decide_eq_true c3
        clear c3
        by_cases c4 : 0 ≤ x5_1
        · rw [if_pos c4] at H
          have c4b0 : decide (0 ≤ x5_1) = true := decide_eq_true c4
          clear c4
          by_cases c5 : (rd l0 x5_1) ≥ a1
          · rw [if_pos c5] at H
            have c5b0 : decide (a1 ≤ (rd l0 x5_1)) = true := decide_eq_true c5
            clear c5
            obtain rfl := Option.some.inj H
            have p178 : 0 ≤ (x5_1 : Int) := of_decide_eq_true (by first | (with_reducible assumption) | assumption)
            have q178 : x5_1 < (l0.length : Int) := of_decide_eq_true (by first | (with_reducible assumption) | assumption)
            obtain ⟨ad178, e178, hx178_0⟩ := Kd.at_int HR0.out x5_1 p178 q178
            cases e178
            replace p178 := eq_true p178
            replace q178 := eq_true q178
            go_wp2
            go_ret
            exact ⟨by first | rfl | (simp; done) | (simp [*]; done), by repeat (first | exact Drawn0.refl _ | apply Drawn0.step)⟩
          · rw [if_neg c5] at H
            have c5b0 : decide (a1 ≤ (rd l0 x5_1)) = false := decide_eq_false c5
            clear c5
            have H' := Aside0.mk H
            clear H
            have p178 : 0 ≤ (x5_1 : Int) := of_decide_eq_true (by first | (with_reducible assumption) | assumption)
            have q178 : x5_1 < (l0.length : Int) := of_decide_eq_true (by first | (with_reducible assumption) | assumption)
            obtain ⟨ad178, e178, hx178_0⟩ := Kd.at_int HR0.out x5_1 p178 q178
            cases e178
            replace p178 := eq_true p178
            replace q178 := eq_true q178
            go_wp2
            go_roundg k1
            case measure => have := HK1.out; omega
            case rel => exact ⟨(wrap64 (x5_1 + 1)), (by first | rfl | (simp; done) | (simp [*]; done)), H', ⟨by have := HK1.out; omega⟩, by repeat (first | exact Drawn0.refl _ | apply Drawn0.step)⟩
        · rw [if_neg c4] at H
          exact absurd H (by simp)
      · rw [if_neg c3] at H
        have c3b0 : decide (x5_1 < (l0.length : Int)) = false := decide_eq_false c3
        clear c3
        obtain rfl := Option.some.inj H
        go_wp2
        go_ret
        exact ⟨by first | rfl | (simp; done) | (simp [*]; done), by repeat (first | exact Drawn0.refl _ | apply Drawn0.step)⟩

/-! ### flagstonelaw40_WealthThresholds: function 6 -/
mutual
def flagstonelaw40_WealthThresholds.j0 : Nat → Int → List Int → Int → Bool → Option (Bool)
  | 0, _, _, _, _ => none
  | k + 1, x2, x4, x5, x51 => if x51 = true then (some false) else (if (x4.length : Int) > 0 then (if (x4.length : Int) = 0 then (none) else (if 0 ≤ (Int.tmod (wrap64 (IntKind.u16.wrap (x2))) (x4.length : Int)) then (if (Int.tmod (wrap64 (IntKind.u16.wrap (x2))) (x4.length : Int)) < (x4.length : Int) then (flagstonelaw40_WealthThresholds.j1 k x4 (rd x4 (Int.tmod (wrap64 (IntKind.u16.wrap (x2))) (x4.length : Int)))) else (none)) else (none))) else (flagstonelaw40_WealthThresholds.j1 k x4 x5))
def flagstonelaw40_WealthThresholds.j1 : Nat → List Int → Int → Option (Bool)
  | 0, _, _ => none
  | k + 1, x4, x5 => (wealth_First.f k x4 x5).bind fun t187 => ((flagstoneref40_First.f k x4 x5).bind fun t188 => (if t187 = t188 then (if (x4.length : Int) = 0 then (some true) else (some (decide (t187 > 0)))) else (some false)))
end
def flagstonelaw40_WealthThresholds.f (k : Nat) (a0 : Int) (a1 : Int) (a2 : Int) (a3 : Int) (l4 : List Int) (a5 : Int) : Option (Bool) := (flagstonelaw40_awake.f k).bind fun t179 => (if t179 = true then (if (l4.length : Int) > 100 then (some true) else ((wealth_Threshold.f k a0 a1).bind fun t180 => ((flagstoneref40_Threshold.f k a0 a1).bind fun t181 => (if t180 = t181 then ((wealth_Threshold.f k (Int.tmod (wrap64 (a2)) 1003) (Int.tmod (wrap64 (a3)) 1003)).bind fun t182 => ((flagstoneref40_Threshold.f k (Int.tmod (wrap64 (a2)) 1003) (Int.tmod (wrap64 (a3)) 1003)).bind fun t183 => (if t182 = t183 then ((wealth_First.f k l4 a5).bind fun t184 => ((flagstoneref40_First.f k l4 a5).bind fun t185 => (flagstonelaw40_WealthThresholds.j0 k a2 l4 a5 (t184 != t185)))) else (flagstonelaw40_WealthThresholds.j0 k a2 l4 a5 true)))) else (flagstonelaw40_WealthThresholds.j0 k a2 l4 a5 true))))) else (some false))
theorem flagstonelaw40_WealthThresholds.mono_l : ∀ k, (∀ y0 y1 y2 y3, LeO (flagstonelaw40_WealthThresholds.j0 k y0 y1 y2 y3) (flagstonelaw40_WealthThresholds.j0 (k + 1) y0 y1 y2 y3)) ∧ (∀ y0 y1, LeO (flagstonelaw40_WealthThresholds.j1 k y0 y1) (flagstonelaw40_WealthThresholds.j1 (k + 1) y0 y1))
  | 0 => ⟨fun _ _ _ _ r h => by simp [flagstonelaw40_WealthThresholds.j0] at h, fun _ _ r h => by simp [flagstonelaw40_WealthThresholds.j1] at h⟩
  | k + 1 => by
    obtain ⟨ih0, ih1⟩ := flagstonelaw40_WealthThresholds.mono_l k
    refine ⟨?_, ?_⟩
    · intro y0 y1 y2 y3
      unfold flagstonelaw40_WealthThresholds.j0
      repeat' first
      | (with_reducible exact ih0 _ _ _ _)
      | (with_reducible exact ih1 _ _)
      | (with_reducible exact flagstonelaw40_awake.mono _)
      | (with_reducible exact flagstoneref40_First.mono _ _ _)
      | (with_reducible exact flagstoneref40_Threshold.mono _ _ _)
      | (with_reducible exact wealth_First.mono _ _ _)
      | (with_reducible exact wealth_Threshold.mono _ _ _)
      | (with_reducible exact LeO.refl _)
      | (with_reducible exact LeO.none _)
      | (with_reducible refine LeO.ite ?_ ?_)
      | (with_reducible refine LeO.bind ?_ (fun _ => ?_))
      | exact ih0 _ _ _ _
      | exact ih1 _ _
      | exact flagstonelaw40_awake.mono _
      | exact flagstoneref40_First.mono _ _ _
      | exact flagstoneref40_Threshold.mono _ _ _
      | exact wealth_First.mono _ _ _
      | exact wealth_Threshold.mono _ _ _
      | exact LeO.none _
      | refine LeO.ite ?_ ?_
      | refine LeO.bind ?_ (fun _ => ?_)
    · intro y0 y1
      unfold flagstonelaw40_WealthThresholds.j1
      repeat' first
      | (with_reducible exact ih0 _ _ _ _)
      | (with_reducible exact ih1 _ _)
      | (with_reducible exact flagstonelaw40_awake.mono _)
      | (with_reducible exact flagstoneref40_First.mono _ _ _)
      | (with_reducible exact flagstoneref40_Threshold.mono _ _ _)
      | (with_reducible exact wealth_First.mono _ _ _)
      | (with_reducible exact wealth_Threshold.mono _ _ _)
      | (with_reducible exact LeO.refl _)
      | (with_reducible exact LeO.none _)
      | (with_reducible refine LeO.ite ?_ ?_)
      | (with_reducible refine LeO.bind ?_ (fun _ => ?_))
      | exact ih0 _ _ _ _
      | exact ih1 _ _
      | exact flagstonelaw40_awake.mono _
      | exact flagstoneref40_First.mono _ _ _
      | exact flagstoneref40_Threshold.mono _ _ _
      | exact wealth_First.mono _ _ _
      | exact wealth_Threshold.mono _ _ _
      | exact LeO.none _
      | refine LeO.ite ?_ ?_
      | refine LeO.bind ?_ (fun _ => ?_)
theorem flagstonelaw40_WealthThresholds.mono : ∀ a0 a1 a2 a3 a4 a5 k, LeO (flagstonelaw40_WealthThresholds.f k a0 a1 a2 a3 a4 a5) (flagstonelaw40_WealthThresholds.f (k + 1) a0 a1 a2 a3 a4 a5) := by
  intro a0 a1 a2 a3 a4 a5 k
  obtain ⟨ih0, ih1⟩ := flagstonelaw40_WealthThresholds.mono_l k
  unfold flagstonelaw40_WealthThresholds.f
  repeat' first
      | (with_reducible exact ih0 _ _ _ _)
      | (with_reducible exact ih1 _ _)
      | (with_reducible exact flagstonelaw40_awake.mono _)
      | (with_reducible exact flagstoneref40_First.mono _ _ _)
      | (with_reducible exact flagstoneref40_Threshold.mono _ _ _)
      | (with_reducible exact wealth_First.mono _ _ _)
      | (with_reducible exact wealth_Threshold.mono _ _ _)
      | (with_reducible exact LeO.refl _)
      | (with_reducible exact LeO.none _)
      | (with_reducible refine LeO.ite ?_ ?_)
      | (with_reducible refine LeO.bind ?_ (fun _ => ?_))
      | exact ih0 _ _ _ _
      | exact ih1 _ _
      | exact flagstonelaw40_awake.mono _
      | exact flagstoneref40_First.mono _ _ _
      | exact flagstoneref40_Threshold.mono _ _ _
      | exact wealth_First.mono _ _ _
      | exact wealth_Threshold.mono _ _ _
      | exact LeO.none _
      | refine LeO.ite ?_ ?_
      | refine LeO.bind ?_ (fun _ => ?_)
set_option maxHeartbeats 8000000 in
set_option maxRecDepth 100000 in
theorem flagstonelaw40_WealthThresholds.calls (k : Nat) (a0 : Int) (a1 : Int) (a2 : Int) (a3 : Int) (A4 : Option Addr) (c4 : Nat) (l4 : List Int) (a5 : Int) (r : Bool) (w : World) (hr4 : Kd.C (Kd.int .i64) w A4 l4.length l4) (hc4 : l4.length ≤ c4) (h : flagstonelaw40_WealthThresholds.f k a0 a1 a2 a3 l4 a5 = some r) :
    Calls Try.prog 6 #[.int .i64 a0, .int .i64 a1, .int .i16 a2, .int .i16 a3, .slice A4 l4.length c4, .int .i64 a5] w fun e w' => e = .returned (.bool r) ∧ Below w.heap.size w w' := by
  have HR4 := Aside0.mk hr4
  have HC4 := Aside0.mk hc4
  clear hr4 hc4
  have HB := Aside0.mk (Below.refl w.heap.size w)
  have H : ((flagstonelaw40_awake.f k).bind fun t179 => (if t179 = true then (if (l4.length : Int) > 100 then (some true) else ((wealth_Threshold.f k a0 a1).bind fun t180 => ((flagstoneref40_Threshold.f k a0 a1).bind fun t181 => (if t180 = t181 then ((wealth_Threshold.f k (Int.tmod (wrap64 (a2)) 1003) (Int.tmod (wrap64 (a3)) 1003)).bind fun t182 => ((flagstoneref40_Threshold.f k (Int.tmod (wrap64 (a2)) 1003) (Int.tmod (wrap64 (a3)) 1003)).bind fun t183 => (if t182 = t183 then ((wealth_First.f k l4 a5).bind fun t184 => ((flagstoneref40_First.f k l4 a5).bind fun t185 => (flagstonelaw40_WealthThresholds.j0 k a2 l4 a5 (t184 != t185)))) else (flagstonelaw40_WealthThresholds.j0 k a2 l4 a5 true)))) else (flagstonelaw40_WealthThresholds.j0 k a2 l4 a5 true))))) else (some false))) = some r := h
  clear h
  replace H := Option.bind_eq_some_iff.mp H
  obtain ⟨t179, A70, H⟩ := H
  replace H : (if t179 = true then (if (l4.length : Int) > 100 then (some true) else ((wealth_Threshold.f k a0 a1).bind fun t180 => ((flagstoneref40_Threshold.f k a0 a1).bind fun t181 => (if t180 = t181 then ((wealth_Threshold.f k (Int.tmod (wrap64 (a2)) 1003) (Int.tmod (wrap64 (a3)) 1003)).bind fun t182 => ((flagstoneref40_Threshold.f k (Int.tmod (wrap64 (a2)) 1003) (Int.tmod (wrap64 (a3)) 1003)).bind fun t183 => (if t182 = t183 then ((wealth_First.f k l4 a5).bind fun t184 => ((flagstoneref40_First.f k l4 a5).bind fun t185 => (flagstonelaw40_WealthThresholds.j0 k a2 l4 a5 (t184 != t185)))) else (flagstonelaw40_WealthThresholds.j0 k a2 l4 a5 true)))) else (flagstonelaw40_WealthThresholds.j0 k a2 l4 a5 true))))) else (some false)) = some r := H
  have A7 := Aside0.mk A70
  clear A70
  by_cases c8 : t179 = true
  · subst c8
    have H1 : (if (l4.length : Int) > 100 then (some true) else ((wealth_Threshold.f k a0 a1).bind fun t180 => ((flagstoneref40_Threshold.f k a0 a1).bind fun t181 => (if t180 = t181 then ((wealth_Threshold.f k (Int.tmod (wrap64 (a2)) 1003) (Int.tmod (wrap64 (a3)) 1003)).bind fun t182 => ((flagstoneref40_Threshold.f k (Int.tmod (wrap64 (a2)) 1003) (Int.tmod (wrap64 (a3)) 1003)).bind fun t183 => (if t182 = t183 then ((wealth_First.f k l4 a5).bind fun t184 => ((flagstoneref40_First.f k l4 a5).bind fun t185 => (flagstonelaw40_WealthThresholds.j0 k a2 l4 a5 (t184 != t185)))) else (flagstonelaw40_WealthThresholds.j0 k a2 l4 a5 true)))) else (flagstonelaw40_WealthThresholds.j0 k a2 l4 a5 true))))) = some r := by rw [if_pos rfl] at H; exact H
    clear H
    have H := H1
    clear H1
    by_cases c9 : (l4.length : Int) > 100
    · rw [if_pos c9] at H
      have c9b0 : decide (100 < (l4.length : Int)) = true := decide_eq_true c9
      have c9b1 : decide (100 < l4.length) = true := decide_eq_true (by omega)
      clear c9
      obtain rfl := Option.some.inj H
      go_enter Try.func6, Try.ntmps6
      go_wp2_with (first | ((with_reducible refine gate_callee (f := 10) rfl ?_); refine goesL_ (some 16) rfl rfl Try.func10 (by kernel_rfl) rfl #[] rfl (by (try simp only [List.map_toArray, List.map_cons, List.map_nil]); first | done | rfl | (simp only [List.length_drop, List.length_take]; rfl)) ?_; (with_reducible refine (flagstonelaw40_awake.calls k  true _ A7.out).mono ?_); rintro e w10 ⟨rfl, hb⟩; refine ⟨_, rfl, ?_⟩; have n0_ := Aside0.mk (below_step (by repeat (first | (with_reducible first | exact HB.out | apply below_alloc | apply pw_below_drewN | apply below_drew1) | exact HB.out)) hb); clear HB; have HB := n0_; clear n0_; (try clear hb); (try clear hb2); (try clear hk); (try clear hi)))
      go_ret
      exact ⟨by first | rfl | (simp [errW_none, errW_some] <;> rfl) | (simp [*, errW_none, errW_some] <;> rfl), by repeat (first | (with_reducible first | exact HB.out | apply below_alloc | apply pw_below_drewN | apply below_drew1) | exact HB.out)⟩
    · rw [if_neg c9] at H
      have c9b0 : decide (100 < (l4.length : Int)) = false := decide_eq_false c9
      have c9b1 : decide (100 < l4.length) = false := decide_eq_false (by omega)
      clear c9
      have HC11 := Aside0.mk H
      clear H
      go_enter Try.func6, Try.ntmps6
      go_upto_region 6 with (first | ((with_reducible refine gate_callee (f := 10) rfl ?_); refine goesL_ (some 16) rfl rfl Try.func10 (by kernel_rfl) rfl #[] rfl (by (try simp only [List.map_toArray, List.map_cons, List.map_nil]); first | done | rfl | (simp only [List.length_drop, List.length_take]; rfl)) ?_; (with_reducible refine (flagstonelaw40_awake.calls k  true _ A7.out).mono ?_); rintro e w12 ⟨rfl, hb⟩; refine ⟨_, rfl, ?_⟩; have n0_ := Aside0.mk (below_step (by repeat (first | (with_reducible first | exact HB.out | apply below_alloc | apply pw_below_drewN | apply below_drew1) | exact HB.out)) hb); clear HB; have HB := n0_; clear n0_; (try clear hb); (try clear hb2); (try clear hk); (try clear hi)))
      (try simp only [Act.put, List.setIfInBounds_toArray, List.set_cons_zero, List.set_cons_succ])
      go_cut [51] (fun v51 wc => ∃ (kq : Nat) (x51_10 : Bool), v51 = .bool x51_10 ∧ Aside0 (flagstonelaw40_WealthThresholds.j0 kq a2 l4 a5 x51_10 = some r) ∧ Aside0 (kq ≤ k) ∧ Aside0 (Below w.heap.size w wc))
      case first =>
        have H := HC11.out
        clear HC11
        replace H := Option.bind_eq_some_iff.mp H
        obtain ⟨t180, A130, H⟩ := H
        replace H : ((flagstoneref40_Threshold.f k a0 a1).bind fun t181 => (if t180 = t181 then ((wealth_Threshold.f k (Int.tmod (wrap64 (a2)) 1003) (Int.tmod (wrap64 (a3)) 1003)).bind fun t182 => ((flagstoneref40_Threshold.f k (Int.tmod (wrap64 (a2)) 1003) (Int.tmod (wrap64 (a3)) 1003)).bind fun t183 => (if t182 = t183 then ((wealth_First.f k l4 a5).bind fun t184 => ((flagstoneref40_First.f k l4 a5).bind fun t185 => (flagstonelaw40_WealthThresholds.j0 k a2 l4 a5 (t184 != t185)))) else (flagstonelaw40_WealthThresholds.j0 k a2 l4 a5 true)))) else (flagstonelaw40_WealthThresholds.j0 k a2 l4 a5 true))) = some r := H
        have A13 := Aside0.mk A130
        clear A130
        replace H := Option.bind_eq_some_iff.mp H
        obtain ⟨t181, A140, H⟩ := H
        replace H : (if t180 = t181 then ((wealth_Threshold.f k (Int.tmod (wrap64 (a2)) 1003) (Int.tmod (wrap64 (a3)) 1003)).bind fun t182 => ((flagstoneref40_Threshold.f k (Int.tmod (wrap64 (a2)) 1003) (Int.tmod (wrap64 (a3)) 1003)).bind fun t183 => (if t182 = t183 then ((wealth_First.f k l4 a5).bind fun t184 => ((flagstoneref40_First.f k l4 a5).bind fun t185 => (flagstonelaw40_WealthThresholds.j0 k a2 l4 a5 (t184 != t185)))) else (flagstonelaw40_WealthThresholds.j0 k a2 l4 a5 true)))) else (flagstonelaw40_WealthThresholds.j0 k a2 l4 a5 true)) = some r := H
        have A14 := Aside0.mk A140
        clear A140
        by_cases c15 : t180 = t181
        · rw [if_pos c15] at H
          have c15b0 : (t180 == t181) = true := beq_iff_eq.mpr c15
          have c15b1 : (t180 != t181) = false := bne_eq_false_iff_eq.mpr c15
          clear c15
          (first | rw [c15b0] | (simp only [i64_w, i32_w]; rw [c15b0]) | skip)
          replace H := Option.bind_eq_some_iff.mp H
          obtain ⟨t182, A160, H⟩ := H
          replace H : ((flagstoneref40_Threshold.f k (Int.tmod (wrap64 (a2)) 1003) (Int.tmod (wrap64 (a3)) 1003)).bind fun t183 => (if t182 = t183 then ((wealth_First.f k l4 a5).bind fun t184 => ((flagstoneref40_First.f k l4 a5).bind fun t185 => (flagstonelaw40_WealthThresholds.j0 k a2 l4 a5 (t184 != t185)))) else (flagstonelaw40_WealthThresholds.j0 k a2 l4 a5 true))) = some r := H
          have A16 := Aside0.mk A160
          clear A160
          replace H := Option.bind_eq_some_iff.mp H
          obtain ⟨t183, A170, H⟩ := H
          replace H : (if t182 = t183 then ((wealth_First.f k l4 a5).bind fun t184 => ((flagstoneref40_First.f k l4 a5).bind fun t185 => (flagstonelaw40_WealthThresholds.j0 k a2 l4 a5 (t184 != t185)))) else (flagstonelaw40_WealthThresholds.j0 k a2 l4 a5 true)) = some r := H
          have A17 := Aside0.mk A170
          clear A170
          by_cases c18 : t182 = t183
          · rw [if_pos c18] at H
            have c18b0 : (t182 == t183) = true := beq_iff_eq.mpr c18
            have c18b1 : (t182 != t183) = false := bne_eq_false_iff_eq.mpr c18
            clear c18
            replace H := Option.bind_eq_some_iff.mp H
            obtain ⟨t184, A190, H⟩ := H
            replace H : ((flagstoneref40_First.f k l4 a5).bind fun t185 => (flagstonelaw40_WealthThresholds.j0 k a2 l4 a5 (t184 != t185))) = some r := H
            have A19 := Aside0.mk A190
            clear A190
            replace H := Option.bind_eq_some_iff.mp H
            obtain ⟨t185, A200, H⟩ := H
            replace H : (flagstonelaw40_WealthThresholds.j0 k a2 l4 a5 (t184 != t185)) = some r := H
            have A20 := Aside0.mk A200
            clear A200
            have H' := Aside0.mk H
            clear H
            go_wp2_with (first | ((with_reducible refine gate_callee (f := 17) rfl ?_); refine goesL_ (some 29) rfl rfl Try.func17 (by kernel_rfl) rfl #[.int .i64 a0, .int .i64 a1] rfl (by (try simp only [List.map_toArray, List.map_cons, List.map_nil]); first | done | rfl | (simp only [List.length_drop, List.length_take]; rfl)) ?_; (with_reducible refine (wealth_Threshold.calls k a0 a1 t180 _ A13.out).mono ?_); rintro e w' ⟨rfl, ⟨nd, rfl⟩⟩; refine ⟨_, rfl, ?_⟩) | ((with_reducible refine gate_callee (f := 18) rfl ?_); refine goesL_ (some 32) rfl rfl Try.func18 (by kernel_rfl) rfl #[.int .i64 a0, .int .i64 a1] rfl (by (try simp only [List.map_toArray, List.map_cons, List.map_nil]); first | done | rfl | (simp only [List.length_drop, List.length_take]; rfl)) ?_; (with_reducible refine (flagstoneref40_Threshold.calls k a0 a1 t181 _ A14.out).mono ?_); rintro e w' ⟨rfl, ⟨nd, rfl⟩⟩; refine ⟨_, rfl, ?_⟩) | (go_at_call 17; (with_reducible refine (wealth_Threshold.calls k (Int.tmod (wrap64 (a2)) 1003) (Int.tmod (wrap64 (a3)) 1003) t182 _ A16.out).mono ?_); rintro e w' ⟨rfl, ⟨nd, rfl⟩⟩) | (go_at_call 18; (with_reducible refine (flagstoneref40_Threshold.calls k (Int.tmod (wrap64 (a2)) 1003) (Int.tmod (wrap64 (a3)) 1003) t183 _ A17.out).mono ?_); rintro e w' ⟨rfl, ⟨nd, rfl⟩⟩) | (go_at_call 19; (with_reducible refine (wealth_First.calls k _ _ l4 a5 t184 _ ?side1 ?side2 A19.out).mono ?_); (case side1 => repeat (first | exact (Kd.C_below HR4.out (by repeat (first | (with_reducible first | exact HB.out | apply below_alloc | apply pw_below_drewN | apply below_drew1) | exact HB.out))) | (with_reducible refine Kd.C_alloc ?_ _) | (with_reducible refine Kd.C_drewN ?_ _) | (with_reducible refine Kd.C_drew ?_))); (case side2 => exact HC4.out); rintro e w' ⟨rfl, ⟨nd, rfl⟩⟩) | (go_at_call 20; (with_reducible refine (flagstoneref40_First.calls k _ _ l4 a5 t185 _ ?side1 ?side2 A20.out).mono ?_); (case side1 => repeat (first | exact (Kd.C_below HR4.out (by repeat (first | (with_reducible first | exact HB.out | apply below_alloc | apply pw_below_drewN | apply below_drew1) | exact HB.out))) | (with_reducible refine Kd.C_alloc ?_ _) | (with_reducible refine Kd.C_drewN ?_ _) | (with_reducible refine Kd.C_drew ?_))); (case side2 => exact HC4.out); rintro e w' ⟨rfl, ⟨nd, rfl⟩⟩))
            go_meet
            case rel => exact ⟨_, ((t184 != t185)), (by first | rfl | (simp; done) | (simp [*]; done)), H', ⟨by first | omega | exact Nat.le_refl _⟩, ⟨by repeat (first | (with_reducible first | exact HB.out | apply below_alloc | apply pw_below_drewN | apply below_drew1) | exact HB.out)⟩⟩
          · rw [if_neg c18] at H
            have c18b0 : (t182 == t183) = false := beq_eq_false_iff_ne.mpr c18
            have c18b1 : (t182 != t183) = true := bne_iff_ne.mpr c18
            have H' := Aside0.mk H
            clear H
            go_wp2_with (first | ((with_reducible refine gate_callee (f := 17) rfl ?_); refine goesL_ (some 29) rfl rfl Try.func17 (by kernel_rfl) rfl #[.int .i64 a0, .int .i64 a1] rfl (by (try simp only [List.map_toArray, List.map_cons, List.map_nil]); first | done | rfl | (simp only [List.length_drop, List.length_take]; rfl)) ?_; (with_reducible refine (wealth_Threshold.calls k a0 a1 t180 _ A13.out).mono ?_); rintro e w' ⟨rfl, ⟨nd, rfl⟩⟩; refine ⟨_, rfl, ?_⟩) | ((with_reducible refine gate_callee (f := 18) rfl ?_); refine goesL_ (some 32) rfl rfl Try.func18 (by kernel_rfl) rfl #[.int .i64 a0, .int .i64 a1] rfl (by (try simp only [List.map_toArray, List.map_cons, List.map_nil]); first | done | rfl | (simp only [List.length_drop, List.length_take]; rfl)) ?_; (with_reducible refine (flagstoneref40_Threshold.calls k a0 a1 t181 _ A14.out).mono ?_); rintro e w' ⟨rfl, ⟨nd, rfl⟩⟩; refine ⟨_, rfl, ?_⟩) | (go_at_call 17; (with_reducible refine (wealth_Threshold.calls k (Int.tmod (wrap64 (a2)) 1003) (Int.tmod (wrap64 (a3)) 1003) t182 _ A16.out).mono ?_); rintro e w' ⟨rfl, ⟨nd, rfl⟩⟩) | (go_at_call 18; (with_reducible refine (flagstoneref40_Threshold.calls k (Int.tmod (wrap64 (a2)) 1003) (Int.tmod (wrap64 (a3)) 1003) t183 _ A17.out).mono ?_); rintro e w' ⟨rfl, ⟨nd, rfl⟩⟩))
            go_meet
            case rel => exact ⟨_, (true), (by first | rfl | (simp; done) | (simp [*]; done)), H', ⟨by first | omega | exact Nat.le_refl _⟩, ⟨by repeat (first | (with_reducible first | exact HB.out | apply below_alloc | apply pw_below_drewN | apply below_drew1) | exact HB.out)⟩⟩
        · rw [if_neg c15] at H
          have c15b0 : (t180 == t181) = false := beq_eq_false_iff_ne.mpr c15
          have c15b1 : (t180 != t181) = true := bne_iff_ne.mpr c15
          (first | rw [c15b0] | (simp only [i64_w, i32_w]; rw [c15b0]) | skip)
          have H' := Aside0.mk H
          clear H
          go_wp2_with (first | ((with_reducible refine gate_callee (f := 17) rfl ?_); refine goesL_ (some 29) rfl rfl Try.func17 (by kernel_rfl) rfl #[.int .i64 a0, .int .i64 a1] rfl (by (try simp only [List.map_toArray, List.map_cons, List.map_nil]); first | done | rfl | (simp only [List.length_drop, List.length_take]; rfl)) ?_; (with_reducible refine (wealth_Threshold.calls k a0 a1 t180 _ A13.out).mono ?_); rintro e w' ⟨rfl, ⟨nd, rfl⟩⟩; refine ⟨_, rfl, ?_⟩) | ((with_reducible refine gate_callee (f := 18) rfl ?_); refine goesL_ (some 32) rfl rfl Try.func18 (by kernel_rfl) rfl #[.int .i64 a0, .int .i64 a1] rfl (by (try simp only [List.map_toArray, List.map_cons, List.map_nil]); first | done | rfl | (simp only [List.length_drop, List.length_take]; rfl)) ?_; (with_reducible refine (flagstoneref40_Threshold.calls k a0 a1 t181 _ A14.out).mono ?_); rintro e w' ⟨rfl, ⟨nd, rfl⟩⟩; refine ⟨_, rfl, ?_⟩))
          go_meet
          case rel => exact ⟨_, (true), (by first | rfl | (simp; done) | (simp [*]; done)), H', ⟨by first | omega | exact Nat.le_refl _⟩, ⟨by repeat (first | (with_reducible first | exact HB.out | apply below_alloc | apply pw_below_drewN | apply below_drew1) | exact HB.out)⟩⟩
      case rest =>
        clear HC11
        try clear c1
        try clear p2
        try clear c4
        try clear c6
        try clear p6
        try clear c8
        try clear c9
        try clear c9b0
        try clear c9b1
        try clear c10
        try clear c15
        try clear c15b0
        try clear c15b1
        try clear c17
        try clear c18
        try clear c18b0
        try clear c18b1
        obtain ⟨kq, x51_10, rfl, HA, HJ10, HB⟩ := hcut
        cases kq with
        | zero => exact absurd HA.out (by simp [flagstonelaw40_WealthThresholds.j0])
        | succ kj10 =>
          have H := HA.out
          clear HA
          simp only [flagstonelaw40_WealthThresholds.j0] at H
          by_cases c21 : x51_10 = true
          · subst c21
            have H1 : (some false) = some r := by rw [if_pos rfl] at H; exact H
            clear H
            have H := H1
            clear H1
            obtain rfl := Option.some.inj H
            go_wp2
            go_ret
            exact ⟨by first | rfl | (simp [errW_none, errW_some] <;> rfl) | (simp [*, errW_none, errW_some] <;> rfl), by repeat (first | (with_reducible first | exact HB.out | apply below_alloc | apply pw_below_drewN | apply below_drew1) | exact HB.out)⟩
          · replace c21 := Bool.eq_false_iff.mpr c21
            subst c21
            have H1 : (if (l4.length : Int) > 0 then (if (l4.length : Int) = 0 then (none) else (if 0 ≤ (Int.tmod (wrap64 (IntKind.u16.wrap (a2))) (l4.length : Int)) then (if (Int.tmod (wrap64 (IntKind.u16.wrap (a2))) (l4.length : Int)) < (l4.length : Int) then (flagstonelaw40_WealthThresholds.j1 kj10 l4 (rd l4 (Int.tmod (wrap64 (IntKind.u16.wrap (a2))) (l4.length : Int)))) else (none)) else (none))) else (flagstonelaw40_WealthThresholds.j1 kj10 l4 a5)) = some r := by rw [if_neg (show ¬ (false = true) by decide)] at H; exact H
            clear H
            have H := H1
            clear H1
            have HC22 := Aside0.mk H
            clear H
            go_upto_if 54 with (fail)
            go_cut [5] (fun v5 wc => ∃ (kq : Nat) (x5_21 : Int), v5 = .int .i64 x5_21 ∧ Aside0 (flagstonelaw40_WealthThresholds.j1 kq l4 x5_21 = some r) ∧ Aside0 (kq ≤ kj10) ∧ Aside0 (Below w.heap.size w wc))
            case first =>
              have H := HC22.out
              clear HC22
              by_cases c23 : (l4.length : Int) > 0
              · rw [if_pos c23] at H
                have c23b0 : decide (0 < (l4.length : Int)) = true := decide_eq_true c23
                have c23b1 : decide (0 < l4.length) = true := decide_eq_true (by omega)
                clear c23
                (first | rw [c23b0] | (simp only [i64_w, i32_w]; rw [c23b0]) | skip)
                by_cases c24 : (l4.length : Int) = 0
                · rw [if_pos c24] at H
                  exact absurd H (by simp)
                · rw [if_neg c24] at H
                  have c24b0 : ((l4.length : Int) == 0) = false := beq_eq_false_iff_ne.mpr c24
                  have c24b1 : ((l4.length : Int) != 0) = true := bne_iff_ne.mpr c24
                  have c24b2 : ¬ (l4 = []) := fun h_ => c24 (by rw [h_]; rfl)
                  obtain ⟨ji25, hji25⟩ : ∃ j_ : Int, (Int.tmod (wrap64 (IntKind.u16.wrap (a2))) (l4.length : Int)) = j_ := ⟨_, rfl⟩
                  replace H : (if 0 ≤ (ji25) then (if (ji25) < (l4.length : Int) then (flagstonelaw40_WealthThresholds.j1 kj10 l4 (rd l4 (ji25))) else (none)) else (none)) = some r := by first | (rw [hji25] at H; exact H) | (simp only [hji25] at H ⊢; exact H)
                  by_cases c26 : 0 ≤ (ji25)
                  · rw [if_pos c26] at H
                    have c26b0 : decide (0 ≤ (ji25)) = true := decide_eq_true c26
                    clear c26
                    by_cases c27 : (ji25) < (l4.length : Int)
                    · rw [if_pos c27] at H
                      have c27b0 : decide ((ji25) < (l4.length : Int)) = true := decide_eq_true c27
                      clear c27
                      have H' := Aside0.mk H
                      clear H
                      have p186 : 0 ≤ ((ji25) : Int) := of_decide_eq_true (by first | (with_reducible assumption) | assumption)
                      have q186 : (ji25) < (l4.length : Int) := of_decide_eq_true (by first | (with_reducible assumption) | assumption)
                      obtain ⟨ad186, e186, hx186_0⟩ := Kd.at_int HR4.out (ji25) p186 q186
                      cases e186
                      replace hx186_0 := (HB.out.cell (World.block_lt_of_cell? w _ hx186_0)).trans hx186_0
                      replace p186 := eq_true p186
                      replace q186 := eq_true q186
                      go_wp2
                      go_meet
                      case rel => exact ⟨_, (rd l4 (ji25)), (by first | rfl | (simp; done) | (simp only [← hji25] <;> (first | rfl | simp)) | (simp [*]; done)), H', ⟨by have := HJ10.out; first | omega | exact Nat.le_refl _⟩, ⟨by repeat (first | (with_reducible first | exact HB.out | apply below_alloc | apply pw_below_drewN | apply below_drew1) | exact HB.out)⟩⟩
                    · rw [if_neg c27] at H
                      exact absurd H (by simp)
                  · rw [if_neg c26] at H
                    exact absurd H (by simp)
              · rw [if_neg c23] at H
                have c23b0 : decide (0 < (l4.length : Int)) = false := decide_eq_false c23
                have c23b1 : decide (0 < l4.length) = false := decide_eq_false (by omega)
                have c23b2 : ¬ (0 < l4.length) := by omega
                clear c23
                (first | rw [c23b0] | (simp only [i64_w, i32_w]; rw [c23b0]) | skip)
                have H' := Aside0.mk H
                clear H
                go_wp2
                go_meet
                case rel => exact ⟨_, (a5), (by first | rfl | (simp; done) | (simp [*]; done)), H', ⟨by have := HJ10.out; first | omega | exact Nat.le_refl _⟩, ⟨by repeat (first | (with_reducible first | exact HB.out | apply below_alloc | apply pw_below_drewN | apply below_drew1) | exact HB.out)⟩⟩
            case rest =>
              clear HC22
              try clear c1
              try clear p1
              try clear q1
              try clear hx1
              try clear c2
              try clear p2
              try clear c4
              try clear c6
              try clear p6
              try clear c8
              try clear c9
              try clear c9b0
              try clear c9b1
              try clear c10
              try clear c15
              try clear c15b0
              try clear c15b1
              try clear c17
              try clear c18
              try clear c18b0
              try clear c18b1
              try clear p18
              try clear q18
              try clear hx18
              try clear c21
              try clear c23
              try clear c23b0
              try clear c23b1
              try clear c23b2
              try clear c24
              try clear c24b0
              try clear c24b1
              try clear c24b2
              try clear c26
              try clear c26b0
              try clear c27
              try clear c27b0
              try clear hx186_0
              try clear p186
              try clear p2
              try clear p6
              try clear q186
              obtain ⟨kq, x5_21, rfl, HA, HJ21, HB⟩ := hcut
              cases kq with
              | zero => exact absurd HA.out (by simp [flagstonelaw40_WealthThresholds.j1])
              | succ kj21 =>
                have H := HA.out
                clear HA
                simp only [flagstonelaw40_WealthThresholds.j1] at H
                replace H := Option.bind_eq_some_iff.mp H
                obtain ⟨t187, A280, H⟩ := H
                replace H : ((flagstoneref40_First.f kj21 l4 x5_21).bind fun t188 => (if t187 = t188 then (if (l4.length : Int) = 0 then (some true) else (some (decide (t187 > 0)))) else (some false))) = some r := H
                have A28 := Aside0.mk A280
                clear A280
                replace H := Option.bind_eq_some_iff.mp H
                obtain ⟨t188, A290, H⟩ := H
                replace H : (if t187 = t188 then (if (l4.length : Int) = 0 then (some true) else (some (decide (t187 > 0)))) else (some false)) = some r := H
                have A29 := Aside0.mk A290
                clear A290
                by_cases c30 : t187 = t188
                · rw [if_pos c30] at H
                  have c30b0 : (t187 == t188) = true := beq_iff_eq.mpr c30
                  have c30b1 : (t187 != t188) = false := bne_eq_false_iff_eq.mpr c30
                  clear c30
                  by_cases c31 : (l4.length : Int) = 0
                  · rw [if_pos c31] at H
                    have c31b0 : ((l4.length : Int) == 0) = true := beq_iff_eq.mpr c31
                    have c31b1 : ((l4.length : Int) != 0) = false := bne_eq_false_iff_eq.mpr c31
                    clear c31
                    obtain rfl := Option.some.inj H
                    go_wp2_with (first | ((with_reducible refine gate_callee (f := 19) rfl ?_); refine goesL_ (some 66) rfl rfl Try.func19 (by kernel_rfl) rfl #[.slice A4 l4.length c4, .int .i64 x5_21] rfl (by (try simp only [List.map_toArray, List.map_cons, List.map_nil]); first | done | rfl | (simp only [List.length_drop, List.length_take]; rfl)) ?_; (with_reducible refine (wealth_First.calls kj21 _ _ l4 x5_21 t187 _ ?side1 ?side2 A28.out).mono ?_); (case side1 => repeat (first | exact (Kd.C_below HR4.out HB.out) | (with_reducible refine Kd.C_alloc ?_ _) | (with_reducible refine Kd.C_drewN ?_ _) | (with_reducible refine Kd.C_drew ?_))); (case side2 => exact HC4.out); rintro e w' ⟨rfl, ⟨nd, rfl⟩⟩; refine ⟨_, rfl, ?_⟩) | ((with_reducible refine gate_callee (f := 20) rfl ?_); refine goesL_ (some 70) rfl rfl Try.func20 (by kernel_rfl) rfl #[.slice A4 l4.length c4, .int .i64 x5_21] rfl (by (try simp only [List.map_toArray, List.map_cons, List.map_nil]); first | done | rfl | (simp only [List.length_drop, List.length_take]; rfl)) ?_; (with_reducible refine (flagstoneref40_First.calls kj21 _ _ l4 x5_21 t188 _ ?side1 ?side2 A29.out).mono ?_); (case side1 => repeat (first | exact (Kd.C_below HR4.out (by repeat (first | (with_reducible first | exact HB.out | apply below_alloc | apply pw_below_drewN | apply below_drew1) | exact HB.out))) | (with_reducible refine Kd.C_alloc ?_ _) | (with_reducible refine Kd.C_drewN ?_ _) | (with_reducible refine Kd.C_drew ?_))); (case side2 => exact HC4.out); rintro e w' ⟨rfl, ⟨nd, rfl⟩⟩; refine ⟨_, rfl, ?_⟩))
                    go_ret
                    exact ⟨by first | rfl | (simp [errW_none, errW_some] <;> rfl) | (simp [*, errW_none, errW_some] <;> rfl), by repeat (first | (with_reducible first | exact HB.out | apply below_alloc | apply pw_below_drewN | apply below_drew1) | exact HB.out)⟩
                  · rw [if_neg c31] at H
                    have c31b0 : ((l4.length : Int) == 0) = false := beq_eq_false_iff_ne.mpr c31
                    have c31b1 : ((l4.length : Int) != 0) = true := bne_iff_ne.mpr c31
                    have c31b2 : ¬ (l4 = []) := fun h_ => c31 (by rw [h_]; rfl)
                    obtain rfl := Option.some.inj H
                    go_wp2_with (first | ((with_reducible refine gate_callee (f := 19) rfl ?_); refine goesL_ (some 66) rfl rfl Try.func19 (by kernel_rfl) rfl #[.slice A4 l4.length c4, .int .i64 x5_21] rfl (by (try simp only [List.map_toArray, List.map_cons, List.map_nil]); first | done | rfl | (simp only [List.length_drop, List.length_take]; rfl)) ?_; (with_reducible refine (wealth_First.calls kj21 _ _ l4 x5_21 t187 _ ?side1 ?side2 A28.out).mono ?_); (case side1 => repeat (first | exact (Kd.C_below HR4.out HB.out) | (with_reducible refine Kd.C_alloc ?_ _) | (with_reducible refine Kd.C_drewN ?_ _) | (with_reducible refine Kd.C_drew ?_))); (case side2 => exact HC4.out); rintro e w' ⟨rfl, ⟨nd, rfl⟩⟩; refine ⟨_, rfl, ?_⟩) | ((with_reducible refine gate_callee (f := 20) rfl ?_); refine goesL_ (some 70) rfl rfl Try.func20 (by kernel_rfl) rfl #[.slice A4 l4.length c4, .int .i64 x5_21] rfl (by (try simp only [List.map_toArray, List.map_cons, List.map_nil]); first | done | rfl | (simp only [List.length_drop, List.length_take]; rfl)) ?_; (with_reducible refine (flagstoneref40_First.calls kj21 _ _ l4 x5_21 t188 _ ?side1 ?side2 A29.out).mono ?_); (case side1 => repeat (first | exact (Kd.C_below HR4.out (by repeat (first | (with_reducible first | exact HB.out | apply below_alloc | apply pw_below_drewN | apply below_drew1) | exact HB.out))) | (with_reducible refine Kd.C_alloc ?_ _) | (with_reducible refine Kd.C_drewN ?_ _) | (with_reducible refine Kd.C_drew ?_))); (case side2 => exact HC4.out); rintro e w' ⟨rfl, ⟨nd, rfl⟩⟩; refine ⟨_, rfl, ?_⟩))
                    go_ret
                    exact ⟨by first | rfl | (simp [errW_none, errW_some] <;> rfl) | (simp [*, errW_none, errW_some] <;> rfl), by repeat (first | (with_reducible first | exact HB.out | apply below_alloc | apply pw_below_drewN | apply below_drew1) | exact HB.out)⟩
                · rw [if_neg c30] at H
                  have c30b0 : (t187 == t188) = false := beq_eq_false_iff_ne.mpr c30
                  have c30b1 : (t187 != t188) = true := bne_iff_ne.mpr c30
                  obtain rfl := Option.some.inj H
                  go_wp2_with (first | ((with_reducible refine gate_callee (f := 19) rfl ?_); refine goesL_ (some 66) rfl rfl Try.func19 (by kernel_rfl) rfl #[.slice A4 l4.length c4, .int .i64 x5_21] rfl (by (try simp only [List.map_toArray, List.map_cons, List.map_nil]); first | done | rfl | (simp only [List.length_drop, List.length_take]; rfl)) ?_; (with_reducible refine (wealth_First.calls kj21 _ _ l4 x5_21 t187 _ ?side1 ?side2 A28.out).mono ?_); (case side1 => repeat (first | exact (Kd.C_below HR4.out HB.out) | (with_reducible refine Kd.C_alloc ?_ _) | (with_reducible refine Kd.C_drewN ?_ _) | (with_reducible refine Kd.C_drew ?_))); (case side2 => exact HC4.out); rintro e w' ⟨rfl, ⟨nd, rfl⟩⟩; refine ⟨_, rfl, ?_⟩) | ((with_reducible refine gate_callee (f := 20) rfl ?_); refine goesL_ (some 70) rfl rfl Try.func20 (by kernel_rfl) rfl #[.slice A4 l4.length c4, .int .i64 x5_21] rfl (by (try simp only [List.map_toArray, List.map_cons, List.map_nil]); first | done | rfl | (simp only [List.length_drop, List.length_take]; rfl)) ?_; (with_reducible refine (flagstoneref40_First.calls kj21 _ _ l4 x5_21 t188 _ ?side1 ?side2 A29.out).mono ?_); (case side1 => repeat (first | exact (Kd.C_below HR4.out (by repeat (first | (with_reducible first | exact HB.out | apply below_alloc | apply pw_below_drewN | apply below_drew1) | exact HB.out))) | (with_reducible refine Kd.C_alloc ?_ _) | (with_reducible refine Kd.C_drewN ?_ _) | (with_reducible refine Kd.C_drew ?_))); (case side2 => exact HC4.out); rintro e w' ⟨rfl, ⟨nd, rfl⟩⟩; refine ⟨_, rfl, ?_⟩))
                  go_ret
                  exact ⟨by first | rfl | (simp [errW_none, errW_some] <;> rfl) | (simp [*, errW_none, errW_some] <;> rfl), by repeat (first | (with_reducible first | exact HB.out | apply below_alloc | apply pw_below_drewN | apply below_drew1) | exact HB.out)⟩
  · replace c8 := Bool.eq_false_iff.mpr c8
    subst c8
    have H1 : (some false) = some r := by rw [if_neg (show ¬ (false = true) by decide)] at H; exact H
    clear H
    have H := H1
    clear H1
    obtain rfl := Option.some.inj H
    go_enter Try.func6, Try.ntmps6
    go_wp2_with (first | ((with_reducible refine gate_callee (f := 10) rfl ?_); refine goesL_ (some 16) rfl rfl Try.func10 (by kernel_rfl) rfl #[] rfl (by (try simp only [List.map_toArray, List.map_cons, List.map_nil]); first | done | rfl | (simp only [List.length_drop, List.length_take]; rfl)) ?_; (with_reducible refine (flagstonelaw40_awake.calls k  false _ A7.out).mono ?_); rintro e w32 ⟨rfl, hb⟩; refine ⟨_, rfl, ?_⟩; have n0_ := Aside0.mk (below_step (by repeat (first | (with_reducible first | exact HB.out | apply below_alloc | apply pw_below_drewN | apply below_drew1) | exact HB.out)) hb); clear HB; have HB := n0_; clear n0_; (try clear hb); (try clear hb2); (try clear hk); (try clear hi)))
    go_ret
    exact ⟨by first | rfl | (simp [errW_none, errW_some] <;> rfl) | (simp [*, errW_none, errW_some] <;> rfl), by repeat (first | (with_reducible first | exact HB.out | apply below_alloc | apply pw_below_drewN | apply below_drew1) | exact HB.out)⟩

/-- THE ONE PURE STATEMENT of flagstonelaw40_WealthThresholds: yours. -/
def flagstonelaw40_WealthThresholds.Pure : Prop := ∀ (a0 : Int) (a1 : Int) (a2 : Int) (a3 : Int) (l4 : List Int) (a5 : Int), (Lit.int .i64 a0).wf = true → (Lit.int .i64 a1).wf = true → (Lit.int .i16 a2).wf = true → (Lit.int .i16 a3).wf = true → l4.length ≤ maxLen → l4.length * 8 ≤ 140737488351232 → (∀ x ∈ l4, (Lit.int .i64 x).wf = true) → (Lit.int .i64 a5).wf = true → ∃ k, flagstonelaw40_WealthThresholds.f k a0 a1 a2 a3 l4 a5 = some true
theorem flagstonelaw40_WealthThresholds.walk (P : flagstonelaw40_WealthThresholds.Pure) (a0 : Int) (a1 : Int) (a2 : Int) (a3 : Int) (a4 : Option Addr) (len4 cap4 : Nat) (z4 : List Int) (a5 : Int) (w : World) (w0 : (Lit.int .i64 a0).wf = true) (w1 : (Lit.int .i64 a1).wf = true) (w2 : (Lit.int .i16 a2).wf = true) (w3 : (Lit.int .i16 a3).wf = true) (w4 : (a4 = none ∧ len4 = 0 ∧ cap4 = 0 ∧ z4 = []) ∨ ∃ x, a4 = some x ∧ len4 ≤ cap4 ∧ cap4 ≤ maxLen ∧ z4.length = cap4 ∧ (∀ i, i < z4.length → w.cell? (x.add i) = some (.int .i64 (z4.getD i 0))) ∧ ∀ n ∈ z4, (Lit.int .i64 n).wf = true) (y4 : len4 * 8 ≤ 140737488351232) (w5 : (Lit.int .i64 a5).wf = true) :
    Calls Try.prog 6 #[.int .i64 a0, .int .i64 a1, .int .i16 a2, .int .i16 a3, .slice a4 len4 cap4, .int .i64 a5] w fun e w' => e = .returned (.bool true) ∧ Below w.heap.size w w' := by
  obtain ⟨l4, rfl, hr4, hm4, hw4, hc4⟩ := ReadsInt.ofRowC w4
  obtain ⟨k, h⟩ := P a0 a1 a2 a3 l4 a5 w0 w1 w2 w3 hm4 y4 hw4 w5
  refine (flagstonelaw40_WealthThresholds.calls k a0 a1 a2 a3 _ _ l4 a5 true w (Kd.C_of_reads (d := (0 : Int)) (h1 := fun _ => rfl) hr4) hc4 h).mono ?_
  rintro e w' ⟨rfl, hd⟩
  exact ⟨rfl, hd⟩

end Go.Proofs.Ytafcnpfhihnmgaa.PA
