-- Written by a program of this seat's session (wip/tools/ownprint.py, over the kit's printer) out of the translation: functions and their contracts.
import Derived.Test.YtdclcdaoidbgbaaPA0
import Derived.Test.YtdclcdaoidbgbaaPA6
namespace Go.Proofs.Ytdclcdaoidbgbaa.PA
open Go.RowKit Go.Proofs.YtdclcdaoidbgbaaW.PrintWords Go.Proofs.YtdclcdaoidbgbaaW.PrintLast Go.Proofs.YtdclcdaoidbgbaaW.PrintMore
attribute [local go_sem] max2_int min2_int max_two min_two max_three min_three max_four min_four   -- for this text's walks alone
set_option linter.unusedVariables false
set_option linter.unusedSimpArgs false

/-! ### flagstoneref41_Lower: function 19 -/
def flagstoneref41_Lower.l0 : Nat → List (S50) → Int → Int → Int → Option (Int)
 | 0, _, _, _, _ => none
 | k + 1, x0, x1, x5, x6 => if x5 < x6 then ((flagstoneref41_Excluded.f k x0 (wrap64 (x5 + (wrap64 (Int.tdiv (wrap64 (x6 - x5)) 2)))) x1 true).bind fun t180 => (if t180 = true then (flagstoneref41_Lower.l0 k x0 x1 (wrap64 ((wrap64 (x5 + (wrap64 (Int.tdiv (wrap64 (x6 - x5)) 2)))) + 1)) x6) else (flagstoneref41_Lower.l0 k x0 x1 x5 (wrap64 (x5 + (wrap64 (Int.tdiv (wrap64 (x6 - x5)) 2))))))) else (some x5)
def flagstoneref41_Lower.f (k : Nat) (l0 : List (S50)) (a1 : Int) : Option (Int) := flagstoneref41_Lower.l0 k l0 a1 (-1000) 1001
theorem flagstoneref41_Lower.mono_l : ∀ k, (∀ y0 y1 y2 y3, LeO (flagstoneref41_Lower.l0 k y0 y1 y2 y3) (flagstoneref41_Lower.l0 (k + 1) y0 y1 y2 y3))
 | 0 => fun _ _ _ _ r h => by simp [flagstoneref41_Lower.l0] at h
 | k + 1 => by
  have ih0 := flagstoneref41_Lower.mono_l k
  ·intro y0 y1 y2 y3
   unfold flagstoneref41_Lower.l0
   repeat' first
   | (with_reducible exact ih0 _ _ _ _)
   | (with_reducible exact flagstoneref41_Excluded.mono _ _ _ _ _)
   | (with_reducible exact LeO.refl _)
   | (with_reducible exact LeO.none _)
   | (with_reducible refine LeO.ite ?_ ?_)
   | (with_reducible refine LeO.bind ?_ (fun _ => ?_))
   | exact ih0 _ _ _ _
   | exact flagstoneref41_Excluded.mono _ _ _ _ _
   | exact LeO.none _
   | refine LeO.ite ?_ ?_
   | refine LeO.bind ?_ (fun _ => ?_)
theorem flagstoneref41_Lower.mono : ∀ a0 a1 k, LeO (flagstoneref41_Lower.f k a0 a1) (flagstoneref41_Lower.f (k + 1) a0 a1) := by
 intro a0 a1 k
 have ih0 := flagstoneref41_Lower.mono_l k
 unfold flagstoneref41_Lower.f
 repeat' first
   | (with_reducible exact ih0 _ _ _ _)
   | (with_reducible exact flagstoneref41_Excluded.mono _ _ _ _ _)
   | (with_reducible exact LeO.refl _)
   | (with_reducible exact LeO.none _)
   | (with_reducible refine LeO.ite ?_ ?_)
   | (with_reducible refine LeO.bind ?_ (fun _ => ?_))
   | exact ih0 _ _ _ _
   | exact flagstoneref41_Excluded.mono _ _ _ _ _
   | exact LeO.none _
   | refine LeO.ite ?_ ?_
   | refine LeO.bind ?_ (fun _ => ?_)
set_option maxHeartbeats 8000000 in
set_option maxRecDepth 100000 in
theorem flagstoneref41_Lower.calls (k : Nat) (A0 : Option Addr) (c0 : Nat) (l0 : List (S50)) (a1 : Int) (r : Int) (w : World) (hr0 : Kd.C k50 w A0 l0.length l0) (hc0 : l0.length ≤ c0) (h : flagstoneref41_Lower.f k l0 a1 = some r) :
  Calls Try.prog 19 #[.slice A0 l0.length c0, .int .i64 a1] w fun e w' => e = .returned (.int .i64 r) ∧ Below w.heap.size w w' := by
 have HR0 := Aside0.mk hr0
 have HC0 := Aside0.mk hc0
 clear hr0 hc0
 have HB := Aside0.mk (Below.refl w.heap.size w)
 have H : (flagstoneref41_Lower.l0 k l0 a1 (-1000) 1001) = some r := h
 clear h
 have H' := Aside0.mk H
 clear H
 go_enter Try.func19, Try.ntmps19
 go_wp2
 go_loopg [5, 6] k (fun kq v5 v6 w' => ∃ (x5_1 : Int) (x6_1 : Int), v5 = .int .i64 x5_1 ∧ v6 = .int .i64 x6_1 ∧ Aside0 (flagstoneref41_Lower.l0 kq l0 a1 x5_1 x6_1 = some r) ∧ Aside0 (kq ≤ k) ∧ Aside0 (Below w.heap.size w w'))
 case atStart => exact ⟨((-1000)), (1001), (by first | rfl | (simp; done) | (simp [*]; done) | exact congrArg (Value.int _) (by unfold wrap64; omega)), (by first | rfl | (simp; done) | (simp [*]; done) | exact congrArg (Value.int _) (by unfold wrap64; omega)), H', ⟨Nat.le_refl _⟩, ⟨by repeat (first | (with_reducible first | exact HB.out | apply below_alloc | apply pw_below_drewN | apply below_drew1) | exact HB.out)⟩⟩
 case round =>
  clear H'
  try clear c1
  try clear p2
  obtain ⟨x5_1, x6_1, rfl, rfl, HA, HK1, HB⟩ := hrel
  cases gk with
  | zero => exact absurd HA.out (by simp [flagstoneref41_Lower.l0])
  | succ k1 =>
   have H := HA.out
   clear HA
   simp only [flagstoneref41_Lower.l0] at H
   by_cases c3 : x5_1 < x6_1
   ·rw [if_pos c3] at H
    have c3b0 : decide (x5_1 < x6_1) = true := decide_eq_true c3
    clear c3
    replace H := Option.bind_eq_some_iff.mp H
    obtain ⟨t180, A40, H⟩ := H
    replace H : (if t180 = true then (flagstoneref41_Lower.l0 k1 l0 a1 (wrap64 ((wrap64 (x5_1 + (wrap64 (Int.tdiv (wrap64 (x6_1 - x5_1)) 2)))) + 1)) x6_1) else (flagstoneref41_Lower.l0 k1 l0 a1 x5_1 (wrap64 (x5_1 + (wrap64 (Int.tdiv (wrap64 (x6_1 - x5_1)) 2)))))) = some r := H
    have A4 := Aside0.mk A40
    clear A40
    by_cases c5 : t180 = true
    ·subst c5
     have H1 : (flagstoneref41_Lower.l0 k1 l0 a1 (wrap64 ((wrap64 (x5_1 + (wrap64 (Int.tdiv (wrap64 (x6_1 - x5_1)) 2)))) + 1)) x6_1) = some r := by rw [if_pos rfl] at H; exact H
     clear H
     have H := H1
     clear H1
     have H' := Aside0.mk H
     clear H
     go_wp2_with (first | ((with_reducible refine gate_callee (f := 30) rfl ?_); refine goesL_ (some 20) rfl rfl Try.func30 (by kernel_rfl) rfl #[.slice A0 l0.length c0, .int .i64 (wrap64 (x5_1 + (wrap64 (Int.tdiv (wrap64 (x6_1 - x5_1)) 2)))), .int .i64 a1, .bool true] rfl (by (try simp only [List.map_toArray, List.map_cons, List.map_nil]); first | done | rfl | (simp only [List.length_drop, List.length_take]; rfl)) ?_; (with_reducible refine (flagstoneref41_Excluded.calls k1 _ _ l0 (wrap64 (x5_1 + (wrap64 (Int.tdiv (wrap64 (x6_1 - x5_1)) 2)))) a1 true true _ ?side1 ?side2 A4.out).mono ?_); (case side1 => repeat (first | exact (Kd.C_below HR0.out HB.out) | (with_reducible refine Kd.C_alloc ?_ _) | (with_reducible refine Kd.C_drewN ?_ _) | (with_reducible refine Kd.C_drew ?_))); (case side2 => exact HC0.out); rintro e w6 ⟨rfl, hb⟩; refine ⟨_, rfl, ?_⟩; have n0_ := Aside0.mk (below_step (by repeat (first | (with_reducible first | exact HB.out | apply below_alloc | apply pw_below_drewN | apply below_drew1) | exact HB.out)) hb); clear HB; have HB := n0_; clear n0_; (try clear hb); (try clear hb2); (try clear hk); (try clear hi)))
     go_roundg k1
     case measure => have := HK1.out; omega
     case rel => exact ⟨(wrap64 ((wrap64 (x5_1 + (wrap64 (Int.tdiv (wrap64 (x6_1 - x5_1)) 2)))) + 1)), (x6_1), (by first | rfl | (simp; done) | (simp [*]; done) | exact congrArg (Value.int _) (by unfold wrap64; omega)), (by first | rfl | (simp; done) | (simp [*]; done) | exact congrArg (Value.int _) (by unfold wrap64; omega)), H', ⟨by have := HK1.out; omega⟩, ⟨by repeat (first | (with_reducible first | exact HB.out | apply below_alloc | apply pw_below_drewN | apply below_drew1) | exact HB.out)⟩⟩
    ·replace c5 := Bool.eq_false_iff.mpr c5
     subst c5
     have H1 : (flagstoneref41_Lower.l0 k1 l0 a1 x5_1 (wrap64 (x5_1 + (wrap64 (Int.tdiv (wrap64 (x6_1 - x5_1)) 2))))) = some r := by rw [if_neg (show ¬ (false = true) by decide)] at H; exact H
     clear H
     have H := H1
     clear H1
     have H' := Aside0.mk H
     clear H
     go_wp2_with (first | ((with_reducible refine gate_callee (f := 30) rfl ?_); refine goesL_ (some 20) rfl rfl Try.func30 (by kernel_rfl) rfl #[.slice A0 l0.length c0, .int .i64 (wrap64 (x5_1 + (wrap64 (Int.tdiv (wrap64 (x6_1 - x5_1)) 2)))), .int .i64 a1, .bool true] rfl (by (try simp only [List.map_toArray, List.map_cons, List.map_nil]); first | done | rfl | (simp only [List.length_drop, List.length_take]; rfl)) ?_; (with_reducible refine (flagstoneref41_Excluded.calls k1 _ _ l0 (wrap64 (x5_1 + (wrap64 (Int.tdiv (wrap64 (x6_1 - x5_1)) 2)))) a1 true false _ ?side1 ?side2 A4.out).mono ?_); (case side1 => repeat (first | exact (Kd.C_below HR0.out HB.out) | (with_reducible refine Kd.C_alloc ?_ _) | (with_reducible refine Kd.C_drewN ?_ _) | (with_reducible refine Kd.C_drew ?_))); (case side2 => exact HC0.out); rintro e w7 ⟨rfl, hb⟩; refine ⟨_, rfl, ?_⟩; have n0_ := Aside0.mk (below_step (by repeat (first | (with_reducible first | exact HB.out | apply below_alloc | apply pw_below_drewN | apply below_drew1) | exact HB.out)) hb); clear HB; have HB := n0_; clear n0_; (try clear hb); (try clear hb2); (try clear hk); (try clear hi)))
     go_roundg k1
     case measure => have := HK1.out; omega
     case rel => exact ⟨(x5_1), (wrap64 (x5_1 + (wrap64 (Int.tdiv (wrap64 (x6_1 - x5_1)) 2)))), (by first | rfl | (simp; done) | (simp [*]; done) | exact congrArg (Value.int _) (by unfold wrap64; omega)), (by first | rfl | (simp; done) | (simp [*]; done) | exact congrArg (Value.int _) (by unfold wrap64; omega)), H', ⟨by have := HK1.out; omega⟩, ⟨by repeat (first | (with_reducible first | exact HB.out | apply below_alloc | apply pw_below_drewN | apply below_drew1) | exact HB.out)⟩⟩
   ·rw [if_neg c3] at H
    have c3b0 : decide (x5_1 < x6_1) = false := decide_eq_false c3
    clear c3
    obtain rfl := Option.some.inj H
    go_wp2
    go_ret
    exact ⟨by first | rfl | (simp [errW_none, errW_some] <;> rfl) | (simp [*, errW_none, errW_some] <;> rfl), by repeat (first | (with_reducible first | exact HB.out | apply below_alloc | apply pw_below_drewN | apply below_drew1) | exact HB.out)⟩

/-! ### flagstoneref41_Upper: function 21 -/
def flagstoneref41_Upper.l0 : Nat → List (S50) → Int → Int → Int → Option (Int)
 | 0, _, _, _, _ => none
 | k + 1, x0, x1, x5, x6 => if x5 < x6 then ((flagstoneref41_Excluded.f k x0 (wrap64 (x5 + (wrap64 (Int.tdiv (wrap64 ((wrap64 (x6 - x5)) + 1)) 2)))) x1 false).bind fun t181 => (if t181 = true then (flagstoneref41_Upper.l0 k x0 x1 x5 (wrap64 ((wrap64 (x5 + (wrap64 (Int.tdiv (wrap64 ((wrap64 (x6 - x5)) + 1)) 2)))) - 1))) else (flagstoneref41_Upper.l0 k x0 x1 (wrap64 (x5 + (wrap64 (Int.tdiv (wrap64 ((wrap64 (x6 - x5)) + 1)) 2)))) x6))) else (some x5)
def flagstoneref41_Upper.f (k : Nat) (l0 : List (S50)) (a1 : Int) : Option (Int) := flagstoneref41_Upper.l0 k l0 a1 (-1001) 1000
theorem flagstoneref41_Upper.mono_l : ∀ k, (∀ y0 y1 y2 y3, LeO (flagstoneref41_Upper.l0 k y0 y1 y2 y3) (flagstoneref41_Upper.l0 (k + 1) y0 y1 y2 y3))
 | 0 => fun _ _ _ _ r h => by simp [flagstoneref41_Upper.l0] at h
 | k + 1 => by
  have ih0 := flagstoneref41_Upper.mono_l k
  ·intro y0 y1 y2 y3
   unfold flagstoneref41_Upper.l0
   repeat' first
   | (with_reducible exact ih0 _ _ _ _)
   | (with_reducible exact flagstoneref41_Excluded.mono _ _ _ _ _)
   | (with_reducible exact LeO.refl _)
   | (with_reducible exact LeO.none _)
   | (with_reducible refine LeO.ite ?_ ?_)
   | (with_reducible refine LeO.bind ?_ (fun _ => ?_))
   | exact ih0 _ _ _ _
   | exact flagstoneref41_Excluded.mono _ _ _ _ _
   | exact LeO.none _
   | refine LeO.ite ?_ ?_
   | refine LeO.bind ?_ (fun _ => ?_)
theorem flagstoneref41_Upper.mono : ∀ a0 a1 k, LeO (flagstoneref41_Upper.f k a0 a1) (flagstoneref41_Upper.f (k + 1) a0 a1) := by
 intro a0 a1 k
 have ih0 := flagstoneref41_Upper.mono_l k
 unfold flagstoneref41_Upper.f
 repeat' first
   | (with_reducible exact ih0 _ _ _ _)
   | (with_reducible exact flagstoneref41_Excluded.mono _ _ _ _ _)
   | (with_reducible exact LeO.refl _)
   | (with_reducible exact LeO.none _)
   | (with_reducible refine LeO.ite ?_ ?_)
   | (with_reducible refine LeO.bind ?_ (fun _ => ?_))
   | exact ih0 _ _ _ _
   | exact flagstoneref41_Excluded.mono _ _ _ _ _
   | exact LeO.none _
   | refine LeO.ite ?_ ?_
   | refine LeO.bind ?_ (fun _ => ?_)
set_option maxHeartbeats 8000000 in
set_option maxRecDepth 100000 in
theorem flagstoneref41_Upper.calls (k : Nat) (A0 : Option Addr) (c0 : Nat) (l0 : List (S50)) (a1 : Int) (r : Int) (w : World) (hr0 : Kd.C k50 w A0 l0.length l0) (hc0 : l0.length ≤ c0) (h : flagstoneref41_Upper.f k l0 a1 = some r) :
  Calls Try.prog 21 #[.slice A0 l0.length c0, .int .i64 a1] w fun e w' => e = .returned (.int .i64 r) ∧ Below w.heap.size w w' := by
 have HR0 := Aside0.mk hr0
 have HC0 := Aside0.mk hc0
 clear hr0 hc0
 have HB := Aside0.mk (Below.refl w.heap.size w)
 have H : (flagstoneref41_Upper.l0 k l0 a1 (-1001) 1000) = some r := h
 clear h
 have H' := Aside0.mk H
 clear H
 go_enter Try.func21, Try.ntmps21
 go_wp2
 go_loopg [5, 6] k (fun kq v5 v6 w' => ∃ (x5_1 : Int) (x6_1 : Int), v5 = .int .i64 x5_1 ∧ v6 = .int .i64 x6_1 ∧ Aside0 (flagstoneref41_Upper.l0 kq l0 a1 x5_1 x6_1 = some r) ∧ Aside0 (kq ≤ k) ∧ Aside0 (Below w.heap.size w w'))
 case atStart => exact ⟨((-1001)), (1000), (by first | rfl | (simp; done) | (simp [*]; done) | exact congrArg (Value.int _) (by unfold wrap64; omega)), (by first | rfl | (simp; done) | (simp [*]; done) | exact congrArg (Value.int _) (by unfold wrap64; omega)), H', ⟨Nat.le_refl _⟩, ⟨by repeat (first | (with_reducible first | exact HB.out | apply below_alloc | apply pw_below_drewN | apply below_drew1) | exact HB.out)⟩⟩
 case round =>
  clear H'
  try clear c2
  try clear p2
  obtain ⟨x5_1, x6_1, rfl, rfl, HA, HK1, HB⟩ := hrel
  cases gk with
  | zero => exact absurd HA.out (by simp [flagstoneref41_Upper.l0])
  | succ k1 =>
   have H := HA.out
   clear HA
   simp only [flagstoneref41_Upper.l0] at H
   by_cases c3 : x5_1 < x6_1
   ·rw [if_pos c3] at H
    have c3b0 : decide (x5_1 < x6_1) = true := decide_eq_true c3
    clear c3
    replace H := Option.bind_eq_some_iff.mp H
    obtain ⟨t181, A40, H⟩ := H
    replace H : (if t181 = true then (flagstoneref41_Upper.l0 k1 l0 a1 x5_1 (wrap64 ((wrap64 (x5_1 + (wrap64 (Int.tdiv (wrap64 ((wrap64 (x6_1 - x5_1)) + 1)) 2)))) - 1))) else (flagstoneref41_Upper.l0 k1 l0 a1 (wrap64 (x5_1 + (wrap64 (Int.tdiv (wrap64 ((wrap64 (x6_1 - x5_1)) + 1)) 2)))) x6_1)) = some r := H
    have A4 := Aside0.mk A40
    clear A40
    by_cases c5 : t181 = true
    ·subst c5
     have H1 : (flagstoneref41_Upper.l0 k1 l0 a1 x5_1 (wrap64 ((wrap64 (x5_1 + (wrap64 (Int.tdiv (wrap64 ((wrap64 (x6_1 - x5_1)) + 1)) 2)))) - 1))) = some r := by rw [if_pos rfl] at H; exact H
     clear H
     have H := H1
     clear H1
     have H' := Aside0.mk H
     clear H
     go_wp2_with (first | ((with_reducible refine gate_callee (f := 30) rfl ?_); refine goesL_ (some 21) rfl rfl Try.func30 (by kernel_rfl) rfl #[.slice A0 l0.length c0, .int .i64 (wrap64 (x5_1 + (wrap64 (Int.tdiv (wrap64 ((wrap64 (x6_1 - x5_1)) + 1)) 2)))), .int .i64 a1, .bool false] rfl (by (try simp only [List.map_toArray, List.map_cons, List.map_nil]); first | done | rfl | (simp only [List.length_drop, List.length_take]; rfl)) ?_; (with_reducible refine (flagstoneref41_Excluded.calls k1 _ _ l0 (wrap64 (x5_1 + (wrap64 (Int.tdiv (wrap64 ((wrap64 (x6_1 - x5_1)) + 1)) 2)))) a1 false true _ ?side1 ?side2 A4.out).mono ?_); (case side1 => repeat (first | exact (Kd.C_below HR0.out HB.out) | (with_reducible refine Kd.C_alloc ?_ _) | (with_reducible refine Kd.C_drewN ?_ _) | (with_reducible refine Kd.C_drew ?_))); (case side2 => exact HC0.out); rintro e w6 ⟨rfl, hb⟩; refine ⟨_, rfl, ?_⟩; have n0_ := Aside0.mk (below_step (by repeat (first | (with_reducible first | exact HB.out | apply below_alloc | apply pw_below_drewN | apply below_drew1) | exact HB.out)) hb); clear HB; have HB := n0_; clear n0_; (try clear hb); (try clear hb2); (try clear hk); (try clear hi)))
     go_roundg k1
     case measure => have := HK1.out; omega
     case rel => exact ⟨(x5_1), (wrap64 ((wrap64 (x5_1 + (wrap64 (Int.tdiv (wrap64 ((wrap64 (x6_1 - x5_1)) + 1)) 2)))) - 1)), (by first | rfl | (simp; done) | (simp [*]; done) | exact congrArg (Value.int _) (by unfold wrap64; omega)), (by first | rfl | (simp; done) | (simp [*]; done) | exact congrArg (Value.int _) (by unfold wrap64; omega)), H', ⟨by have := HK1.out; omega⟩, ⟨by repeat (first | (with_reducible first | exact HB.out | apply below_alloc | apply pw_below_drewN | apply below_drew1) | exact HB.out)⟩⟩
    ·replace c5 := Bool.eq_false_iff.mpr c5
     subst c5
     have H1 : (flagstoneref41_Upper.l0 k1 l0 a1 (wrap64 (x5_1 + (wrap64 (Int.tdiv (wrap64 ((wrap64 (x6_1 - x5_1)) + 1)) 2)))) x6_1) = some r := by rw [if_neg (show ¬ (false = true) by decide)] at H; exact H
     clear H
     have H := H1
     clear H1
     have H' := Aside0.mk H
     clear H
     go_wp2_with (first | ((with_reducible refine gate_callee (f := 30) rfl ?_); refine goesL_ (some 21) rfl rfl Try.func30 (by kernel_rfl) rfl #[.slice A0 l0.length c0, .int .i64 (wrap64 (x5_1 + (wrap64 (Int.tdiv (wrap64 ((wrap64 (x6_1 - x5_1)) + 1)) 2)))), .int .i64 a1, .bool false] rfl (by (try simp only [List.map_toArray, List.map_cons, List.map_nil]); first | done | rfl | (simp only [List.length_drop, List.length_take]; rfl)) ?_; (with_reducible refine (flagstoneref41_Excluded.calls k1 _ _ l0 (wrap64 (x5_1 + (wrap64 (Int.tdiv (wrap64 ((wrap64 (x6_1 - x5_1)) + 1)) 2)))) a1 false false _ ?side1 ?side2 A4.out).mono ?_); (case side1 => repeat (first | exact (Kd.C_below HR0.out HB.out) | (with_reducible refine Kd.C_alloc ?_ _) | (with_reducible refine Kd.C_drewN ?_ _) | (with_reducible refine Kd.C_drew ?_))); (case side2 => exact HC0.out); rintro e w7 ⟨rfl, hb⟩; refine ⟨_, rfl, ?_⟩; have n0_ := Aside0.mk (below_step (by repeat (first | (with_reducible first | exact HB.out | apply below_alloc | apply pw_below_drewN | apply below_drew1) | exact HB.out)) hb); clear HB; have HB := n0_; clear n0_; (try clear hb); (try clear hb2); (try clear hk); (try clear hi)))
     go_roundg k1
     case measure => have := HK1.out; omega
     case rel => exact ⟨(wrap64 (x5_1 + (wrap64 (Int.tdiv (wrap64 ((wrap64 (x6_1 - x5_1)) + 1)) 2)))), (x6_1), (by first | rfl | (simp; done) | (simp [*]; done) | exact congrArg (Value.int _) (by unfold wrap64; omega)), (by first | rfl | (simp; done) | (simp [*]; done) | exact congrArg (Value.int _) (by unfold wrap64; omega)), H', ⟨by have := HK1.out; omega⟩, ⟨by repeat (first | (with_reducible first | exact HB.out | apply below_alloc | apply pw_below_drewN | apply below_drew1) | exact HB.out)⟩⟩
   ·rw [if_neg c3] at H
    have c3b0 : decide (x5_1 < x6_1) = false := decide_eq_false c3
    clear c3
    obtain rfl := Option.some.inj H
    go_wp2
    go_ret
    exact ⟨by first | rfl | (simp [errW_none, errW_some] <;> rfl) | (simp [*, errW_none, errW_some] <;> rfl), by repeat (first | (with_reducible first | exact HB.out | apply below_alloc | apply pw_below_drewN | apply below_drew1) | exact HB.out)⟩

end Go.Proofs.Ytdclcdaoidbgbaa.PA
