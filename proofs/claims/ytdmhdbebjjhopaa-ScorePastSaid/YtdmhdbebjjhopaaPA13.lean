-- Written by a program of this seat's session (wip/tools/ownprint.py, over the kit's printer) out of the translation: functions and their contracts.
import Derived.Test.YtdmhdbebjjhopaaPA0
import Derived.Test.YtdmhdbebjjhopaaPA1
import Derived.Test.YtdmhdbebjjhopaaPA5
namespace Go.Proofs.Ytdmhdbebjjhopaa.PA
open Go.RowKit Go.Proofs.YtdmhdbebjjhopaaW.PrintWords Go.Proofs.YtdmhdbebjjhopaaW.PrintLast Go.Proofs.YtdmhdbebjjhopaaW.PrintMore
attribute [local go_sem] max2_int min2_int max_two min_two max_three min_three max_four min_four   -- for this text's walks alone
set_option linter.unusedVariables false
set_option linter.unusedSimpArgs false

attribute [local go_sem high] eqA37
/-! ### flagstonedata_Weights: function 21 -/
def flagstonedata_Weights.f (a0 : Int) (a1 : Int) (a2 : Int) (a3 : Int) : Option ((List (S42))) := some (([(⟨1, wrap64 (1 + (Int.tmod (wrap64 (a0)) 20)), wrap64 (1 + (Int.tmod (wrap64 (a1)) 20))⟩ : S42), (⟨2, wrap64 (1 + (Int.tmod (wrap64 (a2)) 20)), wrap64 (1 + (Int.tmod (wrap64 (a3)) 20))⟩ : S42)] : List (S42)))
set_option maxHeartbeats 8000000 in
set_option maxRecDepth 100000 in
theorem flagstonedata_Weights.calls (a0 : Int) (a1 : Int) (a2 : Int) (a3 : Int) (r : List (S42)) (w : World) (h : flagstonedata_Weights.f a0 a1 a2 a3 = some r) :
  Calls Try.prog 21 #[.int .u8 a0, .int .u8 a1, .int .u8 a2, .int .u8 a3] w fun e w' => ∃ v0_ : Value, e = .returned (v0_) ∧ Kd.R k42 42 w' w.heap.size (fun _ => True) v0_ r ∧ Below w.heap.size w w' := by
 have hu42 := Try.underlying42
 have HB := Aside0.mk (Below.refl w.heap.size w)
 have H : (some (([(⟨1, wrap64 (1 + (Int.tmod (wrap64 (a0)) 20)), wrap64 (1 + (Int.tmod (wrap64 (a1)) 20))⟩ : S42), (⟨2, wrap64 (1 + (Int.tmod (wrap64 (a2)) 20)), wrap64 (1 + (Int.tmod (wrap64 (a3)) 20))⟩ : S42)] : List (S42)))) = some r := h
 clear h
 obtain ⟨y266, hy266⟩ : ∃ y_ : List (S42), y_ = (([(⟨1, wrap64 (1 + (Int.tmod (wrap64 (a0)) 20)), wrap64 (1 + (Int.tmod (wrap64 (a1)) 20))⟩ : S42), (⟨2, wrap64 (1 + (Int.tmod (wrap64 (a2)) 20)), wrap64 (1 + (Int.tmod (wrap64 (a3)) 20))⟩ : S42)] : List (S42))) := ⟨_, rfl⟩
 replace H : (some y266) = some r := by first | (rw [hy266]; with_reducible exact H) | (have H2_ := (Option.bind_some _ _).symm.trans H; rw [hy266]; with_reducible exact H2_) | (have H2_ := (Option.bind_some _ _).symm.trans H; with_reducible exact H2_) | with_reducible exact H | (rw [hy266]; exact H) | exact H
 have Ny266 := Aside0.mk hy266
 clear hy266
 obtain rfl := Option.some.inj H
 go_enter Try.func21, Try.ntmps21
 go_wp2_with (first | ((with_reducible refine gate_dst (N := 27) rfl ?_); refine Kd.R_lit k42 _ 42 ?hg (N := 27) ?hd (xs := ([(⟨1, wrap64 (1 + (Int.tmod (wrap64 (a0)) 20)), wrap64 (1 + (Int.tmod (wrap64 (a1)) 20))⟩ : S42), (⟨2, wrap64 (1 + (Int.tmod (wrap64 (a2)) 20)), wrap64 (1 + (Int.tmod (wrap64 (a3)) 20))⟩ : S42)] : List (S42))) (inner := [.int .i64 1, .int .i64 (wrap64 (1 + (Int.tmod (wrap64 (a0)) 20))), .int .i64 (wrap64 (1 + (Int.tmod (wrap64 (a1)) 20))), .int .i64 2, .int .i64 (wrap64 (1 + (Int.tmod (wrap64 (a2)) 20))), .int .i64 (wrap64 (1 + (Int.tmod (wrap64 (a3)) 20)))]) (ok := fun _ => True) (okp := fun _ => True) ?hr ?hp (fun _ hk => hk) trivial (Below.refl _ _) (Nat.le_refl _) (by simp) ?_; (case hd => rfl); (case hg => rfl); (case hr => first | (go_simp; done) | (go_simp; rfl)); (case hp => exact (Reps.c3 (show Kd.M k42 _ _ _ (⟨1, wrap64 (1 + (Int.tmod (wrap64 (a0)) 20)), wrap64 (1 + (Int.tmod (wrap64 (a1)) 20))⟩ : S42) [.int .i64 1, .int .i64 (wrap64 (1 + (Int.tmod (wrap64 (a0)) 20))), .int .i64 (wrap64 (1 + (Int.tmod (wrap64 (a1)) 20)))] from (k42_mkM _ _ _ (⟨1, wrap64 (1 + (Int.tmod (wrap64 (a0)) 20)), wrap64 (1 + (Int.tmod (wrap64 (a1)) 20))⟩ : S42) )) (Reps.c3 (show Kd.M k42 _ _ _ (⟨2, wrap64 (1 + (Int.tmod (wrap64 (a2)) 20)), wrap64 (1 + (Int.tmod (wrap64 (a3)) 20))⟩ : S42) [.int .i64 2, .int .i64 (wrap64 (1 + (Int.tmod (wrap64 (a2)) 20))), .int .i64 (wrap64 (1 + (Int.tmod (wrap64 (a3)) 20)))] from (k42_mkM _ _ _ (⟨2, wrap64 (1 + (Int.tmod (wrap64 (a2)) 20)), wrap64 (1 + (Int.tmod (wrap64 (a3)) 20))⟩ : S42) )) (Reps.none _ _)))); intro v267 w5 ho6 hb hg_ hnew_; clear hg_ hnew_; (first | rw [← Ny266.out] at ho6 | (simp only [Int.reduceToNat] at ho6; rw [← Ny266.out] at ho6)); have n0_ := Aside0.mk (Kd.R_lower ho6 (below_size (by repeat (first | (with_reducible first | exact HB.out | apply below_alloc | apply pw_below_drewN | apply below_drew1) | exact HB.out)))); have n1_ := Aside0.mk (below_step (by repeat (first | (with_reducible first | exact HB.out | apply below_alloc | apply pw_below_drewN | apply below_drew1) | exact HB.out)) hb); clear HB; have HO268 := n0_; have HB := n1_; clear n0_ n1_; clear hb ho6))
 go_ret
 exact ⟨_, by first | rfl | (simp [errW_none, errW_some] <;> rfl) | (simp [*, errW_none, errW_some] <;> rfl), by (with_reducible repeat (first | apply Kd.R_alloc | apply Kd.R_drewN | apply Kd.R_drew)); exact HO268.out, by repeat (first | (with_reducible first | exact HB.out | apply below_alloc | apply pw_below_drewN | apply below_drew1) | exact HB.out)⟩

/-! ### flagstoneref39_Same: function 22 -/
def flagstoneref39_Same.l0 : Nat → List (S37) → List (S37) → Int → Option (Bool)
 | 0, _, _, _ => none
 | k + 1, x0, x1, x5 => if x5 < (x0.length : Int) then (if 0 ≤ x5 then (if x5 < (x1.length : Int) then (if (!(((rd_T37 x0 x5).f0) == ((rd_T37 x1 x5).f0)) || (!(((rd_T37 x0 x5).f1) == ((rd_T37 x1 x5).f1)) || (!(((rd_T37 x0 x5).f2) == ((rd_T37 x1 x5).f2))))) = true then (some false) else (flagstoneref39_Same.l0 k x0 x1 (wrap64 (x5 + 1)))) else (none)) else (none)) else (some true)
def flagstoneref39_Same.f (k : Nat) (l0 : List (S37)) (l1 : List (S37)) : Option (Bool) := if (l0.length : Int) = (l1.length : Int) then (flagstoneref39_Same.l0 k l0 l1 0) else (some false)
theorem flagstoneref39_Same.mono_l : ∀ k, (∀ y0 y1 y2, LeO (flagstoneref39_Same.l0 k y0 y1 y2) (flagstoneref39_Same.l0 (k + 1) y0 y1 y2))
 | 0 => fun _ _ _ r h => by simp [flagstoneref39_Same.l0] at h
 | k + 1 => by
  have ih0 := flagstoneref39_Same.mono_l k
  ·intro y0 y1 y2
   unfold flagstoneref39_Same.l0
   repeat' first
   | (with_reducible exact ih0 _ _ _)
   | (with_reducible exact LeO.refl _)
   | (with_reducible exact LeO.none _)
   | (with_reducible refine LeO.ite ?_ ?_)
   | (with_reducible refine LeO.bind ?_ (fun _ => ?_))
   | exact ih0 _ _ _
   | exact LeO.none _
   | refine LeO.ite ?_ ?_
   | refine LeO.bind ?_ (fun _ => ?_)
theorem flagstoneref39_Same.mono : ∀ a0 a1 k, LeO (flagstoneref39_Same.f k a0 a1) (flagstoneref39_Same.f (k + 1) a0 a1) := by
 intro a0 a1 k
 have ih0 := flagstoneref39_Same.mono_l k
 unfold flagstoneref39_Same.f
 repeat' first
   | (with_reducible exact ih0 _ _ _)
   | (with_reducible exact LeO.refl _)
   | (with_reducible exact LeO.none _)
   | (with_reducible refine LeO.ite ?_ ?_)
   | (with_reducible refine LeO.bind ?_ (fun _ => ?_))
   | exact ih0 _ _ _
   | exact LeO.none _
   | refine LeO.ite ?_ ?_
   | refine LeO.bind ?_ (fun _ => ?_)
set_option maxHeartbeats 8000000 in
set_option maxRecDepth 100000 in
theorem flagstoneref39_Same.calls (k : Nat) (A0 : Option Addr) (c0 : Nat) (l0 : List (S37)) (A1 : Option Addr) (c1 : Nat) (l1 : List (S37)) (r : Bool) (w : World) (hr0 : Kd.C k37 w A0 l0.length l0) (hc0 : l0.length ≤ c0) (hr1 : Kd.C k37 w A1 l1.length l1) (hc1 : l1.length ≤ c1) (h : flagstoneref39_Same.f k l0 l1 = some r) :
  Calls Try.prog 22 #[.slice A0 l0.length c0, .slice A1 l1.length c1] w fun e w' => e = .returned (.bool r) ∧ Drawn0 w w' := by
 have hu37 := Try.underlying37
 have HR0 := Aside0.mk hr0
 have HC0 := Aside0.mk hc0
 clear hr0 hc0
 have HR1 := Aside0.mk hr1
 have HC1 := Aside0.mk hc1
 clear hr1 hc1
 have H : (if (l0.length : Int) = (l1.length : Int) then (flagstoneref39_Same.l0 k l0 l1 0) else (some false)) = some r := h
 clear h
 by_cases c3 : (l0.length : Int) = (l1.length : Int)
 ·rw [if_pos c3] at H
  have c3b0 : ((l0.length : Int) == (l1.length : Int)) = true := beq_iff_eq.mpr c3
  have c3b1 : ((l0.length : Int) != (l1.length : Int)) = false := bne_eq_false_iff_eq.mpr c3
  have c3b2 : (l0.length == l1.length) = true := by first | simpa using c3 | (simp at c3 ⊢; omega)
  clear c3
  have H' := Aside0.mk H
  clear H
  go_enter Try.func22, Try.ntmps22
  go_wp2
  repeat (go_quiet (fail); try go_wp2)
  go_loopg [5] k (fun kq v5 w' => ∃ (x5_1 : Int), v5 = .int .i64 x5_1 ∧ Aside0 (flagstoneref39_Same.l0 kq l0 l1 x5_1 = some r) ∧ Aside0 (kq ≤ k) ∧ Drawn0 w w')
  case atStart => exact ⟨(0), (by first | rfl | (simp; done) | (simp [*]; done) | exact congrArg (Value.int _) (by unfold wrap64; omega)), H', ⟨Nat.le_refl _⟩, by repeat (first | exact Drawn0.refl _ | apply Drawn0.step)⟩
  case round =>
   clear H'
   try clear c1
   try clear c2
   try clear p2
   try clear c3
   try clear c3b0
   try clear c3b1
   try clear c3b2
   obtain ⟨x5_1, rfl, HA, HK1, ⟨m1, rfl⟩⟩ := hrel
   cases gk with
   | zero => exact absurd HA.out (by simp [flagstoneref39_Same.l0])
   | succ k1 =>
    have H := HA.out
    clear HA
    simp only [flagstoneref39_Same.l0] at H
    by_cases c4 : x5_1 < (l0.length : Int)
    ·rw [if_pos c4] at H
     have c4b0 : decide (x5_1 < (l0.length : Int)) = true := decide_eq_true c4
     clear c4
     by_cases c5 : 0 ≤ x5_1
     ·rw [if_pos c5] at H
      have c5b0 : decide (0 ≤ x5_1) = true := decide_eq_true c5
      clear c5
      by_cases c6 : x5_1 < (l1.length : Int)
      ·rw [if_pos c6] at H
       have c6b0 : decide (x5_1 < (l1.length : Int)) = true := decide_eq_true c6
       clear c6
       by_cases c7 : (!(((rd_T37 l0 x5_1).f0) == ((rd_T37 l1 x5_1).f0)) || (!(((rd_T37 l0 x5_1).f1) == ((rd_T37 l1 x5_1).f1)) || (!(((rd_T37 l0 x5_1).f2) == ((rd_T37 l1 x5_1).f2))))) = true
       ·rw [if_pos c7] at H
        have c7b0 : (!(((rd_T37 l0 x5_1).f0) == ((rd_T37 l1 x5_1).f0)) || (!(((rd_T37 l0 x5_1).f1) == ((rd_T37 l1 x5_1).f1)) || (!(((rd_T37 l0 x5_1).f2) == ((rd_T37 l1 x5_1).f2))))) = true := c7
        clear c7
        obtain rfl := Option.some.inj H
        have p269 : 0 ≤ (x5_1 : Int) := of_decide_eq_true (by first | (with_reducible assumption) | assumption)
        have q269 : x5_1 < (l0.length : Int) := of_decide_eq_true (by first | (with_reducible assumption) | assumption)
        obtain ⟨ad269, e269, hx269_0, hx269_1, hx269_2⟩ := at_T37 HR0.out x5_1 p269 q269
        cases e269
        replace p269 := eq_true p269
        replace q269 := eq_true q269
        have p270 : 0 ≤ (x5_1 : Int) := of_decide_eq_true (by first | (with_reducible assumption) | assumption)
        have q270 : x5_1 < (l1.length : Int) := of_decide_eq_true (by first | (with_reducible assumption) | assumption)
        obtain ⟨ad270, e270, hx270_0, hx270_1, hx270_2⟩ := at_T37 HR1.out x5_1 p270 q270
        cases e270
        replace p270 := eq_true p270
        replace q270 := eq_true q270
        go_wp2
        repeat (go_quiet (fail); try go_wp2)
        go_ret
        exact ⟨by first | rfl | (simp; done) | (simp [*]; done), by repeat (first | exact Drawn0.refl _ | apply Drawn0.step)⟩
       ·rw [if_neg c7] at H
        have c7b0 : (!(((rd_T37 l0 x5_1).f0) == ((rd_T37 l1 x5_1).f0)) || (!(((rd_T37 l0 x5_1).f1) == ((rd_T37 l1 x5_1).f1)) || (!(((rd_T37 l0 x5_1).f2) == ((rd_T37 l1 x5_1).f2))))) = false := by simpa using c7
        clear c7
        have H' := Aside0.mk H
        clear H
        have p269 : 0 ≤ (x5_1 : Int) := of_decide_eq_true (by first | (with_reducible assumption) | assumption)
        have q269 : x5_1 < (l0.length : Int) := of_decide_eq_true (by first | (with_reducible assumption) | assumption)
        obtain ⟨ad269, e269, hx269_0, hx269_1, hx269_2⟩ := at_T37 HR0.out x5_1 p269 q269
        cases e269
        replace p269 := eq_true p269
        replace q269 := eq_true q269
        have p270 : 0 ≤ (x5_1 : Int) := of_decide_eq_true (by first | (with_reducible assumption) | assumption)
        have q270 : x5_1 < (l1.length : Int) := of_decide_eq_true (by first | (with_reducible assumption) | assumption)
        obtain ⟨ad270, e270, hx270_0, hx270_1, hx270_2⟩ := at_T37 HR1.out x5_1 p270 q270
        cases e270
        replace p270 := eq_true p270
        replace q270 := eq_true q270
        go_wp2
        repeat (go_quiet (fail); try go_wp2)
        go_roundg k1
        case measure => have := HK1.out; omega
        case rel => exact ⟨(wrap64 (x5_1 + 1)), (by first | rfl | (simp; done) | (simp [*]; done) | exact congrArg (Value.int _) (by unfold wrap64; omega)), H', ⟨by have := HK1.out; omega⟩, by repeat (first | exact Drawn0.refl _ | apply Drawn0.step)⟩
      ·rw [if_neg c6] at H
       exact absurd H (by simp)
     ·rw [if_neg c5] at H
      exact absurd H (by simp)
    ·rw [if_neg c4] at H
     have c4b0 : decide (x5_1 < (l0.length : Int)) = false := decide_eq_false c4
     clear c4
     obtain rfl := Option.some.inj H
     go_wp2
     repeat (go_quiet (fail); try go_wp2)
     go_ret
     exact ⟨by first | rfl | (simp; done) | (simp [*]; done), by repeat (first | exact Drawn0.refl _ | apply Drawn0.step)⟩
 ·rw [if_neg c3] at H
  have c3b0 : ((l0.length : Int) == (l1.length : Int)) = false := beq_eq_false_iff_ne.mpr c3
  have c3b1 : ((l0.length : Int) != (l1.length : Int)) = true := bne_iff_ne.mpr c3
  have c3b2 : (l0.length == l1.length) = false := by first | simpa using c3 | (simp at c3 ⊢; omega)
  obtain rfl := Option.some.inj H
  go_enter Try.func22, Try.ntmps22
  go_wp2
  repeat (go_quiet (fail); try go_wp2)
  go_ret
  exact ⟨by first | rfl | (simp; done) | (simp [*]; done), by repeat (first | exact Drawn0.refl _ | apply Drawn0.step)⟩

/-! ### score_All: function 23 -/
mutual
def score_All.l0 : Nat → List (S34) → List (S42) → Int → Bool → List (S37) → List (S34) → Int → Int → Option ((List (S37)))
 | 0, _, _, _, _, _, _, _, _ => none
 | k + 1, x0, x1, x2, x3, x9, x16, x17, x18 => if x18 < x17 then (if 0 ≤ x18 then (if x18 < (x16.length : Int) then (score_All.l1 k x0 x1 x2 x3 x9 x18 x16 x17 x18 x1 (x1.length : Int) 0 ((rd_T34 x16 x18).f0.f0) ((rd_T34 x16 x18).f0.f1) ((rd_T34 x16 x18).f0.f2) ((rd_T34 x16 x18).f0.f3) ((rd_T34 x16 x18).f0.f4) ((rd_T34 x16 x18).f0.f5) ((rd_T34 x16 x18).f1) ((rd_T34 x16 x18).f2) ((rd_T34 x16 x18).f3) ((rd_T34 x16 x18).f4)) else (none)) else (none)) else (some x9)
def score_All.l1 : Nat → List (S34) → List (S42) → Int → Bool → List (S37) → Int → List (S34) → Int → Int → List (S42) → Int → Int → ByteArray → ByteArray → Int → Int → Int → Int → Int → Int → Int → Bool → Option ((List (S37)))
 | 0, _, _, _, _, _, _, _, _, _, _, _, _, _, _, _, _, _, _, _, _, _, _ => none
 | k + 1, x0, x1, x2, x3, x9, x10, x16, x17, x18, x23, x24, x25, x273000, x273001, x273002, x273003, x273004, x273005, x273006, x273007, x273008, x273009 => if x25 < x24 then (if 0 ≤ x25 then (if x25 < (x23.length : Int) then (if ((rd_T42 x23 x25).f0) = x273005 then ((score_Of.f k x0 x10 ((rd_T42 x23 x25).f0) ((rd_T42 x23 x25).f1) ((rd_T42 x23 x25).f2) x2 x3).bind fun bt275 => (if bt275.2.2.2 = true then (if x9.length < 5864062014805 then (score_All.l0 k x0 x1 x2 x3 (x9 ++ [(⟨bt275.1, bt275.2.1, bt275.2.2.1⟩ : S37)]) x16 x17 (wrap64 (x18 + 1))) else (none)) else (score_All.l0 k x0 x1 x2 x3 x9 x16 x17 (wrap64 (x18 + 1))))) else (score_All.l1 k x0 x1 x2 x3 x9 x10 x16 x17 x18 x23 x24 (wrap64 (x25 + 1)) x273000 x273001 x273002 x273003 x273004 x273005 x273006 x273007 x273008 x273009)) else (none)) else (none)) else (score_All.l0 k x0 x1 x2 x3 x9 x16 x17 (wrap64 (x18 + 1)))
end
def score_All.f (k : Nat) (l0 : List (S34)) (l1 : List (S42)) (a2 : Int) (a3 : Bool) : Option ((List (S37))) := score_All.l0 k l0 l1 a2 a3 ([] : List (S37)) l0 (l0.length : Int) 0
theorem score_All.mono_l : ∀ k, (∀ y0 y1 y2 y3 y4 y5 y6 y7, LeO (score_All.l0 k y0 y1 y2 y3 y4 y5 y6 y7) (score_All.l0 (k + 1) y0 y1 y2 y3 y4 y5 y6 y7)) ∧ (∀ y0 y1 y2 y3 y4 y5 y6 y7 y8 y9 y10 y11 y12 y13 y14 y15 y16 y17 y18 y19 y20 y21, LeO (score_All.l1 k y0 y1 y2 y3 y4 y5 y6 y7 y8 y9 y10 y11 y12 y13 y14 y15 y16 y17 y18 y19 y20 y21) (score_All.l1 (k + 1) y0 y1 y2 y3 y4 y5 y6 y7 y8 y9 y10 y11 y12 y13 y14 y15 y16 y17 y18 y19 y20 y21))
 | 0 => ⟨fun _ _ _ _ _ _ _ _ r h => by simp [score_All.l0] at h, fun _ _ _ _ _ _ _ _ _ _ _ _ _ _ _ _ _ _ _ _ _ _ r h => by simp [score_All.l1] at h⟩
 | k + 1 => by
  obtain ⟨ih0, ih1⟩ := score_All.mono_l k
  refine ⟨?_, ?_⟩
  ·intro y0 y1 y2 y3 y4 y5 y6 y7
   unfold score_All.l0
   repeat' first
   | (with_reducible exact ih0 _ _ _ _ _ _ _ _)
   | (with_reducible exact ih1 _ _ _ _ _ _ _ _ _ _ _ _ _ _ _ _ _ _ _ _ _ _)
   | (with_reducible exact score_Of.mono _ _ _ _ _ _ _ _)
   | (with_reducible exact LeO.refl _)
   | (with_reducible exact LeO.none _)
   | (with_reducible refine LeO.ite ?_ ?_)
   | (with_reducible refine LeO.bind ?_ (fun _ => ?_))
   | exact ih0 _ _ _ _ _ _ _ _
   | exact ih1 _ _ _ _ _ _ _ _ _ _ _ _ _ _ _ _ _ _ _ _ _ _
   | exact score_Of.mono _ _ _ _ _ _ _ _
   | exact LeO.none _
   | refine LeO.ite ?_ ?_
   | refine LeO.bind ?_ (fun _ => ?_)
  ·intro y0 y1 y2 y3 y4 y5 y6 y7 y8 y9 y10 y11 y12 y13 y14 y15 y16 y17 y18 y19 y20 y21
   unfold score_All.l1
   repeat' first
   | (with_reducible exact ih0 _ _ _ _ _ _ _ _)
   | (with_reducible exact ih1 _ _ _ _ _ _ _ _ _ _ _ _ _ _ _ _ _ _ _ _ _ _)
   | (with_reducible exact score_Of.mono _ _ _ _ _ _ _ _)
   | (with_reducible exact LeO.refl _)
   | (with_reducible exact LeO.none _)
   | (with_reducible refine LeO.ite ?_ ?_)
   | (with_reducible refine LeO.bind ?_ (fun _ => ?_))
   | exact ih0 _ _ _ _ _ _ _ _
   | exact ih1 _ _ _ _ _ _ _ _ _ _ _ _ _ _ _ _ _ _ _ _ _ _
   | exact score_Of.mono _ _ _ _ _ _ _ _
   | exact LeO.none _
   | refine LeO.ite ?_ ?_
   | refine LeO.bind ?_ (fun _ => ?_)
theorem score_All.mono : ∀ a0 a1 a2 a3 k, LeO (score_All.f k a0 a1 a2 a3) (score_All.f (k + 1) a0 a1 a2 a3) := by
 intro a0 a1 a2 a3 k
 obtain ⟨ih0, ih1⟩ := score_All.mono_l k
 unfold score_All.f
 repeat' first
   | (with_reducible exact ih0 _ _ _ _ _ _ _ _)
   | (with_reducible exact ih1 _ _ _ _ _ _ _ _ _ _ _ _ _ _ _ _ _ _ _ _ _ _)
   | (with_reducible exact score_Of.mono _ _ _ _ _ _ _ _)
   | (with_reducible exact LeO.refl _)
   | (with_reducible exact LeO.none _)
   | (with_reducible refine LeO.ite ?_ ?_)
   | (with_reducible refine LeO.bind ?_ (fun _ => ?_))
   | exact ih0 _ _ _ _ _ _ _ _
   | exact ih1 _ _ _ _ _ _ _ _ _ _ _ _ _ _ _ _ _ _ _ _ _ _
   | exact score_Of.mono _ _ _ _ _ _ _ _
   | exact LeO.none _
   | refine LeO.ite ?_ ?_
   | refine LeO.bind ?_ (fun _ => ?_)
set_option maxHeartbeats 8000000 in
set_option maxRecDepth 100000 in
theorem score_All.calls (k : Nat) (A0 : Option Addr) (c0 : Nat) (l0 : List (S34)) (A1 : Option Addr) (c1 : Nat) (l1 : List (S42)) (a2 : Int) (a3 : Bool) (r : List (S37)) (w : World) (hr0 : Kd.C k34 w A0 l0.length l0) (hc0 : l0.length ≤ c0) (hr1 : Kd.C k42 w A1 l1.length l1) (hc1 : l1.length ≤ c1) (h : score_All.f k l0 l1 a2 a3 = some r) :
  Calls Try.prog 23 #[.slice A0 l0.length c0, .slice A1 l1.length c1, .int .i64 a2, .bool a3] w fun e w' => ∃ v0_ : Value, e = .returned (v0_) ∧ Kd.R k37 37 w' w.heap.size (fun _ => True) v0_ r ∧ Below w.heap.size w w' := by
 have hu34 := Try.underlying34
 have hu42 := Try.underlying42
 have hu37 := Try.underlying37
 have HR0 := Aside0.mk hr0
 have HC0 := Aside0.mk hc0
 clear hr0 hc0
 have HR1 := Aside0.mk hr1
 have HC1 := Aside0.mk hc1
 clear hr1 hc1
 have HB := Aside0.mk (Below.refl w.heap.size w)
 have H : (score_All.l0 k l0 l1 a2 a3 ([] : List (S37)) l0 (l0.length : Int) 0) = some r := h
 clear h
 have H' := Aside0.mk H
 clear H
 go_enter Try.func23, Try.ntmps23
 go_wp2
 go_loopg [9, 18] k (fun kq v9 v18 w' => ∃ (x9_1 : List (S37)) (x18_1 : Int), v18 = .int .i64 x18_1 ∧ Aside0 (score_All.l0 kq l0 l1 a2 a3 x9_1 l0 (l0.length : Int) x18_1 = some r) ∧ Aside0 (kq ≤ k) ∧ Aside0 (Kd.R k37 37 w' w.heap.size (fun _ => True) v9 x9_1) ∧ Aside0 (Below w.heap.size w w'))
 case atStart => exact ⟨(([] : List (S37))), (0), (by first | rfl | (simp; done) | (simp [*]; done) | exact congrArg (Value.int _) (by unfold wrap64; omega)), H', ⟨Nat.le_refl _⟩, ⟨by first | exact Kd.R_nil _ _ _ _ _ | exact Kd.N_nil _ _ _ _ _ | exact Kd.V_nil _ _ _ _ _ | exact Kd.Q_nil _ _ _ _ _ | exact Kd.S_nil _ _ _ _ _⟩, ⟨by repeat (first | (with_reducible first | exact HB.out | apply below_alloc | apply pw_below_drewN | apply below_drew1) | exact HB.out)⟩⟩
 case round =>
  clear H'
  try clear c1
  try clear c2
  try clear p2
  obtain ⟨x9_1, x18_1, rfl, HA, HK1, HO_9, HB⟩ := hrel
  cases gk with
  | zero => exact absurd HA.out (by simp [score_All.l0])
  | succ k1 =>
   have H := HA.out
   clear HA
   simp only [score_All.l0] at H
   by_cases c5 : x18_1 < (l0.length : Int)
   ·rw [if_pos c5] at H
    have c5b0 : decide (x18_1 < (l0.length : Int)) = true := decide_eq_true c5
    clear c5
    by_cases c6 : 0 ≤ x18_1
    ·rw [if_pos c6] at H
     have c6b0 : decide (0 ≤ x18_1) = true := decide_eq_true c6
     clear c6
     by_cases c7 : x18_1 < (l0.length : Int)
     ·rw [if_pos c7] at H
      have c7b0 : decide (x18_1 < (l0.length : Int)) = true := decide_eq_true c7
      clear c7
      have H' := Aside0.mk H
      clear H
      have p271 : 0 ≤ (x18_1 : Int) := of_decide_eq_true (by first | (with_reducible assumption) | assumption)
      have q271 : x18_1 < (l0.length : Int) := of_decide_eq_true (by first | (with_reducible assumption) | assumption)
      obtain ⟨ad271, e271, hx271_0, hx271_1, hx271_2, hx271_3, hx271_4, hx271_5, hx271_6, hx271_7, hx271_8, hx271_9⟩ := at_T34 HR0.out x18_1 p271 q271
      cases e271
      replace hx271_0 := (HB.out.cell (World.block_lt_of_cell? w _ hx271_0)).trans hx271_0
      replace hx271_1 := (HB.out.cell (World.block_lt_of_cell? w _ hx271_1)).trans hx271_1
      replace hx271_2 := (HB.out.cell (World.block_lt_of_cell? w _ hx271_2)).trans hx271_2
      replace hx271_3 := (HB.out.cell (World.block_lt_of_cell? w _ hx271_3)).trans hx271_3
      replace hx271_4 := (HB.out.cell (World.block_lt_of_cell? w _ hx271_4)).trans hx271_4
      replace hx271_5 := (HB.out.cell (World.block_lt_of_cell? w _ hx271_5)).trans hx271_5
      replace hx271_6 := (HB.out.cell (World.block_lt_of_cell? w _ hx271_6)).trans hx271_6
      replace hx271_7 := (HB.out.cell (World.block_lt_of_cell? w _ hx271_7)).trans hx271_7
      replace hx271_8 := (HB.out.cell (World.block_lt_of_cell? w _ hx271_8)).trans hx271_8
      replace hx271_9 := (HB.out.cell (World.block_lt_of_cell? w _ hx271_9)).trans hx271_9
      replace p271 := eq_true p271
      replace q271 := eq_true q271
      go_wp2_with (first | ((with_reducible refine gate_dst (N := 11) rfl ?_); refine box_event ?hg (N := 11) ?hd (cs := #[.string (⟨#[]⟩ : ByteArray), .string (⟨#[]⟩ : ByteArray), .int .i64 0, .int .i64 0, .int .i64 0, .int .i64 0, .int .i64 0, .int .i64 0, .int .i64 0, .bool false]) (t := 34) ?hr ?_; (case hd => rfl); (case hg => rfl); (case hr => first | (go_simp; done) | (go_simp; rfl)); intro gb272 hg w8 hbox hb; have n0_ := Aside0.mk (Kd.R_below (by (with_reducible repeat (first | apply Kd.R_alloc | apply Kd.R_drewN | apply Kd.R_drew)); exact HO_9.out) hb); have n1_ := Aside0.mk (below_step (by repeat (first | (with_reducible first | exact HB.out | apply below_alloc | apply pw_below_drewN | apply below_drew1) | exact HB.out)) hb); have n2_ := Aside0.mk (hbox); have n3_ := Aside0.mk ((by rw [hg]; exact (below_size (by repeat (first | (with_reducible first | exact HB.out | apply below_alloc | apply pw_below_drewN | apply below_drew1) | exact HB.out))) : w.heap.size ≤ gb272)); have n4_ := Aside0.mk ((by rw [hg]; exact (below_size (by repeat (first | (with_reducible first | exact HB.out | apply below_alloc | apply pw_below_drewN | apply below_drew1) | exact HB.out))) : w.heap.size ≤ gb272)); clear HO_9; clear HB; have HO_9 := n0_; have HB := n1_; have BK272 := n2_; have GW272 := n3_; have GE272 := n4_; clear n0_ n1_ n2_ n3_ n4_; clear hb hbox hg; have hcz9_0 : w8.cell? ⟨gb272, 0, none⟩ = some (.string (⟨#[]⟩ : ByteArray)) := (blk_cell BK272.out 0).trans rfl; have hcz9_1 : w8.cell? ⟨gb272, 1, none⟩ = some (.string (⟨#[]⟩ : ByteArray)) := (blk_cell BK272.out 1).trans rfl; have hcz9_2 : w8.cell? ⟨gb272, 2, none⟩ = some (.int .i64 0) := (blk_cell BK272.out 2).trans rfl; have hcz9_3 : w8.cell? ⟨gb272, 3, none⟩ = some (.int .i64 0) := (blk_cell BK272.out 3).trans rfl; have hcz9_4 : w8.cell? ⟨gb272, 4, none⟩ = some (.int .i64 0) := (blk_cell BK272.out 4).trans rfl; have hcz9_5 : w8.cell? ⟨gb272, 5, none⟩ = some (.int .i64 0) := (blk_cell BK272.out 5).trans rfl; have hcz9_6 : w8.cell? ⟨gb272, 6, none⟩ = some (.int .i64 0) := (blk_cell BK272.out 6).trans rfl; have hcz9_7 : w8.cell? ⟨gb272, 7, none⟩ = some (.int .i64 0) := (blk_cell BK272.out 7).trans rfl; have hcz9_8 : w8.cell? ⟨gb272, 8, none⟩ = some (.int .i64 0) := (blk_cell BK272.out 8).trans rfl; have hcz9_9 : w8.cell? ⟨gb272, 9, none⟩ = some (.bool false) := (blk_cell BK272.out 9).trans rfl; have hfz9_0 := blk_frozen BK272.out 0; have hfz9_1 := blk_frozen BK272.out 1; have hfz9_2 := blk_frozen BK272.out 2; have hfz9_3 := blk_frozen BK272.out 3; have hfz9_4 := blk_frozen BK272.out 4; have hfz9_5 := blk_frozen BK272.out 5; have hfz9_6 := blk_frozen BK272.out 6; have hfz9_7 := blk_frozen BK272.out 7; have hfz9_8 := blk_frozen BK272.out 8; have hfz9_9 := blk_frozen BK272.out 9))
      go_loopg [9, 25] k1 (fun kq v9 v25 w' => ∃ (x9_2 : List (S37)) (x25_2 : Int), v25 = .int .i64 x25_2 ∧ Aside0 (score_All.l1 kq l0 l1 a2 a3 x9_2 x18_1 l0 (l0.length : Int) x18_1 l1 (l1.length : Int) x25_2 ((rd_T34 l0 x18_1).f0.f0) ((rd_T34 l0 x18_1).f0.f1) ((rd_T34 l0 x18_1).f0.f2) ((rd_T34 l0 x18_1).f0.f3) ((rd_T34 l0 x18_1).f0.f4) ((rd_T34 l0 x18_1).f0.f5) ((rd_T34 l0 x18_1).f1) ((rd_T34 l0 x18_1).f2) ((rd_T34 l0 x18_1).f3) ((rd_T34 l0 x18_1).f4) = some r) ∧ Aside0 (kq ≤ k1) ∧ Aside0 (Kd.R k37 37 w' w.heap.size (fun _ => True) v9 x9_2) ∧ Aside0 (w'.heap[gb272]? = some (.cells #[.string ((rd_T34 l0 x18_1).f0.f0), .string ((rd_T34 l0 x18_1).f0.f1), .int .i64 ((rd_T34 l0 x18_1).f0.f2), .int .i64 ((rd_T34 l0 x18_1).f0.f3), .int .i64 ((rd_T34 l0 x18_1).f0.f4), .int .i64 ((rd_T34 l0 x18_1).f0.f5), .int .i64 ((rd_T34 l0 x18_1).f1), .int .i64 ((rd_T34 l0 x18_1).f2), .int .i64 ((rd_T34 l0 x18_1).f3), .bool ((rd_T34 l0 x18_1).f4)] 34 (0, 0))) ∧ Aside0 (Below w.heap.size w w'))
      case atStart => exact ⟨(x9_1), (0), (by first | rfl | (simp; done) | (simp [*]; done) | exact congrArg (Value.int _) (by unfold wrap64; omega)), H', ⟨Nat.le_refl _⟩, ⟨by (with_reducible repeat (first | apply Kd.R_alloc | apply Kd.R_drewN | apply Kd.R_drew)); exact Kd.R_mono (Kd.R_far (p := ⟨gb272, 9, none⟩) (Kd.R_far (p := ⟨gb272, 8, none⟩) (Kd.R_far (p := ⟨gb272, 7, none⟩) (Kd.R_far (p := ⟨gb272, 6, none⟩) (Kd.R_far (p := ⟨gb272, 5, none⟩) (Kd.R_far (p := ⟨gb272, 4, none⟩) (Kd.R_far (p := ⟨gb272, 3, none⟩) (Kd.R_far (p := ⟨gb272, 2, none⟩) (Kd.R_far (p := ⟨gb272, 1, none⟩) (Kd.R_far (p := ⟨gb272, 0, none⟩) (Kd.R_types HO_9.out BK272.out (by decide)) (fun _ hk => hk.2) (.string ((rd_T34 l0 x18_1).f0.f0))) (fun _ hk => hk.2) (.string ((rd_T34 l0 x18_1).f0.f1))) (fun _ hk => hk.2) (.int .i64 ((rd_T34 l0 x18_1).f0.f2))) (fun _ hk => hk.2) (.int .i64 ((rd_T34 l0 x18_1).f0.f3))) (fun _ hk => hk.2) (.int .i64 ((rd_T34 l0 x18_1).f0.f4))) (fun _ hk => hk.2) (.int .i64 ((rd_T34 l0 x18_1).f0.f5))) (fun _ hk => hk.2) (.int .i64 ((rd_T34 l0 x18_1).f1))) (fun _ hk => hk.2) (.int .i64 ((rd_T34 l0 x18_1).f2))) (fun _ hk => hk.2) (.int .i64 ((rd_T34 l0 x18_1).f3))) (fun _ hk => hk.2) (.bool ((rd_T34 l0 x18_1).f4))) (fun _ hk => trivial)⟩, ⟨by (with_reducible repeat (first | refine blk_drewN ?_ _ | refine blk_drew ?_ | refine blk_alloc ?_ _)); refine blk_put (cs := #[.string ((rd_T34 l0 x18_1).f0.f0), .string ((rd_T34 l0 x18_1).f0.f1), .int .i64 ((rd_T34 l0 x18_1).f0.f2), .int .i64 ((rd_T34 l0 x18_1).f0.f3), .int .i64 ((rd_T34 l0 x18_1).f0.f4), .int .i64 ((rd_T34 l0 x18_1).f0.f5), .int .i64 ((rd_T34 l0 x18_1).f1), .int .i64 ((rd_T34 l0 x18_1).f2), .int .i64 ((rd_T34 l0 x18_1).f3), .bool false]) ?_ 9 _ rfl; (with_reducible repeat (first | refine blk_drewN ?_ _ | refine blk_drew ?_ | refine blk_alloc ?_ _)); refine blk_put (cs := #[.string ((rd_T34 l0 x18_1).f0.f0), .string ((rd_T34 l0 x18_1).f0.f1), .int .i64 ((rd_T34 l0 x18_1).f0.f2), .int .i64 ((rd_T34 l0 x18_1).f0.f3), .int .i64 ((rd_T34 l0 x18_1).f0.f4), .int .i64 ((rd_T34 l0 x18_1).f0.f5), .int .i64 ((rd_T34 l0 x18_1).f1), .int .i64 ((rd_T34 l0 x18_1).f2), .int .i64 0, .bool false]) ?_ 8 _ rfl; (with_reducible repeat (first | refine blk_drewN ?_ _ | refine blk_drew ?_ | refine blk_alloc ?_ _)); refine blk_put (cs := #[.string ((rd_T34 l0 x18_1).f0.f0), .string ((rd_T34 l0 x18_1).f0.f1), .int .i64 ((rd_T34 l0 x18_1).f0.f2), .int .i64 ((rd_T34 l0 x18_1).f0.f3), .int .i64 ((rd_T34 l0 x18_1).f0.f4), .int .i64 ((rd_T34 l0 x18_1).f0.f5), .int .i64 ((rd_T34 l0 x18_1).f1), .int .i64 0, .int .i64 0, .bool false]) ?_ 7 _ rfl; (with_reducible repeat (first | refine blk_drewN ?_ _ | refine blk_drew ?_ | refine blk_alloc ?_ _)); refine blk_put (cs := #[.string ((rd_T34 l0 x18_1).f0.f0), .string ((rd_T34 l0 x18_1).f0.f1), .int .i64 ((rd_T34 l0 x18_1).f0.f2), .int .i64 ((rd_T34 l0 x18_1).f0.f3), .int .i64 ((rd_T34 l0 x18_1).f0.f4), .int .i64 ((rd_T34 l0 x18_1).f0.f5), .int .i64 0, .int .i64 0, .int .i64 0, .bool false]) ?_ 6 _ rfl; (with_reducible repeat (first | refine blk_drewN ?_ _ | refine blk_drew ?_ | refine blk_alloc ?_ _)); refine blk_put (cs := #[.string ((rd_T34 l0 x18_1).f0.f0), .string ((rd_T34 l0 x18_1).f0.f1), .int .i64 ((rd_T34 l0 x18_1).f0.f2), .int .i64 ((rd_T34 l0 x18_1).f0.f3), .int .i64 ((rd_T34 l0 x18_1).f0.f4), .int .i64 0, .int .i64 0, .int .i64 0, .int .i64 0, .bool false]) ?_ 5 _ rfl; (with_reducible repeat (first | refine blk_drewN ?_ _ | refine blk_drew ?_ | refine blk_alloc ?_ _)); refine blk_put (cs := #[.string ((rd_T34 l0 x18_1).f0.f0), .string ((rd_T34 l0 x18_1).f0.f1), .int .i64 ((rd_T34 l0 x18_1).f0.f2), .int .i64 ((rd_T34 l0 x18_1).f0.f3), .int .i64 0, .int .i64 0, .int .i64 0, .int .i64 0, .int .i64 0, .bool false]) ?_ 4 _ rfl; (with_reducible repeat (first | refine blk_drewN ?_ _ | refine blk_drew ?_ | refine blk_alloc ?_ _)); refine blk_put (cs := #[.string ((rd_T34 l0 x18_1).f0.f0), .string ((rd_T34 l0 x18_1).f0.f1), .int .i64 ((rd_T34 l0 x18_1).f0.f2), .int .i64 0, .int .i64 0, .int .i64 0, .int .i64 0, .int .i64 0, .int .i64 0, .bool false]) ?_ 3 _ rfl; (with_reducible repeat (first | refine blk_drewN ?_ _ | refine blk_drew ?_ | refine blk_alloc ?_ _)); refine blk_put (cs := #[.string ((rd_T34 l0 x18_1).f0.f0), .string ((rd_T34 l0 x18_1).f0.f1), .int .i64 0, .int .i64 0, .int .i64 0, .int .i64 0, .int .i64 0, .int .i64 0, .int .i64 0, .bool false]) ?_ 2 _ rfl; (with_reducible repeat (first | refine blk_drewN ?_ _ | refine blk_drew ?_ | refine blk_alloc ?_ _)); refine blk_put (cs := #[.string ((rd_T34 l0 x18_1).f0.f0), .string (⟨#[]⟩ : ByteArray), .int .i64 0, .int .i64 0, .int .i64 0, .int .i64 0, .int .i64 0, .int .i64 0, .int .i64 0, .bool false]) ?_ 1 _ rfl; (with_reducible repeat (first | refine blk_drewN ?_ _ | refine blk_drew ?_ | refine blk_alloc ?_ _)); refine blk_put (cs := #[.string (⟨#[]⟩ : ByteArray), .string (⟨#[]⟩ : ByteArray), .int .i64 0, .int .i64 0, .int .i64 0, .int .i64 0, .int .i64 0, .int .i64 0, .int .i64 0, .bool false]) ?_ 0 _ rfl; (with_reducible repeat (first | refine blk_drewN ?_ _ | refine blk_drew ?_ | refine blk_alloc ?_ _)); exact BK272.out⟩, ⟨by repeat (first | (with_reducible first | exact HB.out | apply below_alloc | apply pw_below_drewN | apply below_drew1 | refine below_set ?_ GE272.out) | exact HB.out)⟩⟩
      case round =>
       clear H'
       try clear c1
       try clear c2
       try clear p2
       try clear q2
       try clear hx2
       try clear c5
       try clear c5b0
       try clear c6
       try clear c6b0
       try clear p6
       try clear c7
       try clear c7b0
       try clear hcz9_0
       try clear hcz9_1
       try clear hcz9_2
       try clear hcz9_3
       try clear hcz9_4
       try clear hcz9_5
       try clear hcz9_6
       try clear hcz9_7
       try clear hcz9_8
       try clear hcz9_9
       try clear hfz9_0
       try clear hfz9_1
       try clear hfz9_2
       try clear hfz9_3
       try clear hfz9_4
       try clear hfz9_5
       try clear hfz9_6
       try clear hfz9_7
       try clear hfz9_8
       try clear hfz9_9
       try clear hx271_0
       try clear hx271_1
       try clear hx271_2
       try clear hx271_3
       try clear hx271_4
       try clear hx271_5
       try clear hx271_6
       try clear hx271_7
       try clear hx271_8
       try clear hx271_9
       try clear p2
       try clear p271
       try clear q271
       obtain ⟨x9_2, x25_2, rfl, HA, HK2, HO_9, BK272, HB⟩ := hrel
       cases gk with
       | zero => exact absurd HA.out (by simp [score_All.l1])
       | succ k2 =>
        have H := HA.out
        clear HA
        simp only [score_All.l1] at H
        by_cases c10 : x25_2 < (l1.length : Int)
        ·rw [if_pos c10] at H
         have c10b0 : decide (x25_2 < (l1.length : Int)) = true := decide_eq_true c10
         clear c10
         by_cases c11 : 0 ≤ x25_2
         ·rw [if_pos c11] at H
          have c11b0 : decide (0 ≤ x25_2) = true := decide_eq_true c11
          clear c11
          by_cases c12 : x25_2 < (l1.length : Int)
          ·rw [if_pos c12] at H
           have c12b0 : decide (x25_2 < (l1.length : Int)) = true := decide_eq_true c12
           clear c12
           by_cases c13 : ((rd_T42 l1 x25_2).f0) = ((rd_T34 l0 x18_1).f0.f5)
           ·rw [if_pos c13] at H
            have c13b0 : (((rd_T42 l1 x25_2).f0) == ((rd_T34 l0 x18_1).f0.f5)) = true := beq_iff_eq.mpr c13
            have c13b1 : (((rd_T42 l1 x25_2).f0) != ((rd_T34 l0 x18_1).f0.f5)) = false := bne_eq_false_iff_eq.mpr c13
            clear c13
            replace H := Option.bind_eq_some_iff.mp H
            obtain ⟨⟨t275, t276, t277, t278⟩, A140, H⟩ := H
            replace H : (if t278 = true then (if x9_2.length < 5864062014805 then (score_All.l0 k2 l0 l1 a2 a3 (x9_2 ++ [(⟨t275, t276, t277⟩ : S37)]) l0 (l0.length : Int) (wrap64 (x18_1 + 1))) else (none)) else (score_All.l0 k2 l0 l1 a2 a3 x9_2 l0 (l0.length : Int) (wrap64 (x18_1 + 1)))) = some r := H
            have A14 := Aside0.mk A140
            clear A140
            by_cases c15 : t278 = true
            ·subst c15
             have H1 : (if x9_2.length < 5864062014805 then (score_All.l0 k2 l0 l1 a2 a3 (x9_2 ++ [(⟨t275, t276, t277⟩ : S37)]) l0 (l0.length : Int) (wrap64 (x18_1 + 1))) else (none)) = some r := by rw [if_pos rfl] at H; exact H
             clear H
             have H := H1
             clear H1
             by_cases c16 : x9_2.length < 5864062014805
             ·rw [if_pos c16] at H
              have LMc16 := Aside0.mk c16
              clear c16
              obtain ⟨y280, hy280⟩ : ∃ y_ : List (S37), y_ = (x9_2 ++ [(⟨t275, t276, t277⟩ : S37)]) := ⟨_, rfl⟩
              replace H : (score_All.l0 k2 l0 l1 a2 a3 y280 l0 (l0.length : Int) (wrap64 (x18_1 + 1))) = some r := by first | (rw [hy280]; with_reducible exact H) | (have H2_ := (Option.bind_some _ _).symm.trans H; rw [hy280]; with_reducible exact H2_) | (have H2_ := (Option.bind_some _ _).symm.trans H; with_reducible exact H2_) | with_reducible exact H | (rw [hy280]; exact H) | exact H
              have Ny280 := Aside0.mk hy280
              clear hy280
              have H' := Aside0.mk H
              clear H
              have p273 : 0 ≤ (x25_2 : Int) := of_decide_eq_true (by first | (with_reducible assumption) | assumption)
              have q273 : x25_2 < (l1.length : Int) := of_decide_eq_true (by first | (with_reducible assumption) | assumption)
              obtain ⟨ad273, e273, hx273_0, hx273_1, hx273_2⟩ := at_T42 HR1.out x25_2 p273 q273
              cases e273
              replace hx273_0 := (HB.out.cell (World.block_lt_of_cell? w _ hx273_0)).trans hx273_0
              replace hx273_1 := (HB.out.cell (World.block_lt_of_cell? w _ hx273_1)).trans hx273_1
              replace hx273_2 := (HB.out.cell (World.block_lt_of_cell? w _ hx273_2)).trans hx273_2
              replace p273 := eq_true p273
              replace q273 := eq_true q273
              go_wp2_with (first | ((with_reducible refine gate_dst (N := 13) rfl ?_); refine box_event ?hg (N := 13) ?hd (cs := #[.int .i64 0, .int .i64 0, .int .i64 0]) (t := 42) ?hr ?_; (case hd => rfl); (case hg => rfl); (case hr => first | (go_simp; done) | (go_simp; rfl)); intro gb274 hg w17 hbox hb; have n0_ := Aside0.mk (Kd.R_below (by (with_reducible repeat (first | apply Kd.R_alloc | apply Kd.R_drewN | apply Kd.R_drew)); exact HO_9.out) hb); have n1_ := Aside0.mk (blk_below (g := gb272) (o := .cells #[.string ((rd_T34 l0 x18_1).f0.f0), .string ((rd_T34 l0 x18_1).f0.f1), .int .i64 ((rd_T34 l0 x18_1).f0.f2), .int .i64 ((rd_T34 l0 x18_1).f0.f3), .int .i64 ((rd_T34 l0 x18_1).f0.f4), .int .i64 ((rd_T34 l0 x18_1).f0.f5), .int .i64 ((rd_T34 l0 x18_1).f1), .int .i64 ((rd_T34 l0 x18_1).f2), .int .i64 ((rd_T34 l0 x18_1).f3), .bool ((rd_T34 l0 x18_1).f4)] 34 (0, 0)) (by (with_reducible repeat (first | refine blk_drewN ?_ _ | refine blk_drew ?_ | refine blk_alloc ?_ _)); exact BK272.out) hb); have n2_ := Aside0.mk (below_step (by repeat (first | (with_reducible first | exact HB.out | apply below_alloc | apply pw_below_drewN | apply below_drew1 | refine below_set ?_ GE272.out) | exact HB.out)) hb); have n3_ := Aside0.mk (hbox); have n4_ := Aside0.mk ((by rw [hg]; exact (below_size (by repeat (first | (with_reducible first | exact HB.out | apply below_alloc | apply pw_below_drewN | apply below_drew1 | refine below_set ?_ GE272.out) | exact HB.out))) : w.heap.size ≤ gb274)); have n5_ := Aside0.mk ((by rw [hg]; exact (below_size (by repeat (first | (with_reducible first | exact HB.out | apply below_alloc | apply pw_below_drewN | apply below_drew1 | refine below_set ?_ GE272.out) | exact HB.out))) : w.heap.size ≤ gb274)); have n6_ := Aside0.mk ((by rw [hg]; exact Nat.ne_of_lt (blk_lt (g := gb272) (o := .cells #[.string ((rd_T34 l0 x18_1).f0.f0), .string ((rd_T34 l0 x18_1).f0.f1), .int .i64 ((rd_T34 l0 x18_1).f0.f2), .int .i64 ((rd_T34 l0 x18_1).f0.f3), .int .i64 ((rd_T34 l0 x18_1).f0.f4), .int .i64 ((rd_T34 l0 x18_1).f0.f5), .int .i64 ((rd_T34 l0 x18_1).f1), .int .i64 ((rd_T34 l0 x18_1).f2), .int .i64 ((rd_T34 l0 x18_1).f3), .bool ((rd_T34 l0 x18_1).f4)] 34 (0, 0)) (by (with_reducible repeat (first | refine blk_drewN ?_ _ | refine blk_drew ?_ | refine blk_alloc ?_ _)); exact BK272.out)) : gb272 ≠ gb274)); have n7_ := Aside0.mk ((by rw [hg]; exact Nat.ne_of_gt (blk_lt (g := gb272) (o := .cells #[.string ((rd_T34 l0 x18_1).f0.f0), .string ((rd_T34 l0 x18_1).f0.f1), .int .i64 ((rd_T34 l0 x18_1).f0.f2), .int .i64 ((rd_T34 l0 x18_1).f0.f3), .int .i64 ((rd_T34 l0 x18_1).f0.f4), .int .i64 ((rd_T34 l0 x18_1).f0.f5), .int .i64 ((rd_T34 l0 x18_1).f1), .int .i64 ((rd_T34 l0 x18_1).f2), .int .i64 ((rd_T34 l0 x18_1).f3), .bool ((rd_T34 l0 x18_1).f4)] 34 (0, 0)) (by (with_reducible repeat (first | refine blk_drewN ?_ _ | refine blk_drew ?_ | refine blk_alloc ?_ _)); exact BK272.out)) : gb274 ≠ gb272)); clear HO_9; clear BK272; clear HB; have HO_9 := n0_; have BK272 := n1_; have HB := n2_; have BK274 := n3_; have GW274 := n4_; have GE274 := n5_; have NB272_274 := n6_; have NB274_272 := n7_; clear n0_ n1_ n2_ n3_ n4_ n5_ n6_ n7_; clear hb hbox hg; have hnb18 := NB274_272.out; have hnc18 := NB272_274.out; have hcz19_0 : w17.cell? ⟨gb274, 0, none⟩ = some (.int .i64 0) := (blk_cell BK274.out 0).trans rfl; have hcz19_1 : w17.cell? ⟨gb274, 1, none⟩ = some (.int .i64 0) := (blk_cell BK274.out 1).trans rfl; have hcz19_2 : w17.cell? ⟨gb274, 2, none⟩ = some (.int .i64 0) := (blk_cell BK274.out 2).trans rfl; have hfz19_0 := blk_frozen BK274.out 0; have hfz19_1 := blk_frozen BK274.out 1; have hfz19_2 := blk_frozen BK274.out 2; have hcz20_0 : w17.cell? ⟨gb272, 0, none⟩ = some (.string ((rd_T34 l0 x18_1).f0.f0)) := (blk_cell BK272.out 0).trans rfl; have hcz20_1 : w17.cell? ⟨gb272, 1, none⟩ = some (.string ((rd_T34 l0 x18_1).f0.f1)) := (blk_cell BK272.out 1).trans rfl; have hcz20_2 : w17.cell? ⟨gb272, 2, none⟩ = some (.int .i64 ((rd_T34 l0 x18_1).f0.f2)) := (blk_cell BK272.out 2).trans rfl; have hcz20_3 : w17.cell? ⟨gb272, 3, none⟩ = some (.int .i64 ((rd_T34 l0 x18_1).f0.f3)) := (blk_cell BK272.out 3).trans rfl; have hcz20_4 : w17.cell? ⟨gb272, 4, none⟩ = some (.int .i64 ((rd_T34 l0 x18_1).f0.f4)) := (blk_cell BK272.out 4).trans rfl; have hcz20_5 : w17.cell? ⟨gb272, 5, none⟩ = some (.int .i64 ((rd_T34 l0 x18_1).f0.f5)) := (blk_cell BK272.out 5).trans rfl; have hcz20_6 : w17.cell? ⟨gb272, 6, none⟩ = some (.int .i64 ((rd_T34 l0 x18_1).f1)) := (blk_cell BK272.out 6).trans rfl; have hcz20_7 : w17.cell? ⟨gb272, 7, none⟩ = some (.int .i64 ((rd_T34 l0 x18_1).f2)) := (blk_cell BK272.out 7).trans rfl; have hcz20_8 : w17.cell? ⟨gb272, 8, none⟩ = some (.int .i64 ((rd_T34 l0 x18_1).f3)) := (blk_cell BK272.out 8).trans rfl; have hcz20_9 : w17.cell? ⟨gb272, 9, none⟩ = some (.bool ((rd_T34 l0 x18_1).f4)) := (blk_cell BK272.out 9).trans rfl; have hfz20_0 := blk_frozen BK272.out 0; have hfz20_1 := blk_frozen BK272.out 1; have hfz20_2 := blk_frozen BK272.out 2; have hfz20_3 := blk_frozen BK272.out 3; have hfz20_4 := blk_frozen BK272.out 4; have hfz20_5 := blk_frozen BK272.out 5; have hfz20_6 := blk_frozen BK272.out 6; have hfz20_7 := blk_frozen BK272.out 7; have hfz20_8 := blk_frozen BK272.out 8; have hfz20_9 := blk_frozen BK272.out 9) | ((with_reducible refine gate_callee (f := 19) rfl ?_); refine goesL_ (some 41) rfl rfl Try.func19 (by kernel_rfl) rfl #[.slice (some ad271) l0.length c0, .int .i64 x18_1, .agg #[.int .i64 ((rd_T42 l1 x25_2).f0), .int .i64 ((rd_T42 l1 x25_2).f1), .int .i64 ((rd_T42 l1 x25_2).f2)], .int .i64 a2, .bool a3] rfl (by (try simp only [List.map_toArray, List.map_cons, List.map_nil]); first | done | rfl | (simp only [List.length_drop, List.length_take]; rfl)) ?_; (with_reducible refine (score_Of.calls k2 _ _ l0 x18_1 ((rd_T42 l1 x25_2).f0) ((rd_T42 l1 x25_2).f1) ((rd_T42 l1 x25_2).f2) a2 a3 t275 t276 t277 true _ ?side1 ?side2 A14.out).mono ?_); (case side1 => exact Kd.C_below HR0.out (by repeat (first | (with_reducible first | exact HB.out | apply below_alloc | apply pw_below_drewN | apply below_drew1 | refine below_set ?_ GE272.out | refine below_set ?_ GE274.out) | exact HB.out))); (case side2 => exact HC0.out); rintro e w21 ⟨rfl, hb⟩; refine ⟨_, rfl, ?_⟩; have n0_ := Aside0.mk (Kd.R_below (by (with_reducible repeat (first | apply Kd.R_alloc | apply Kd.R_drewN | apply Kd.R_drew)); exact (Kd.R_mono (Kd.R_far (p := ⟨gb274, 2, none⟩) (Kd.R_far (p := ⟨gb274, 1, none⟩) (Kd.R_far (p := ⟨gb274, 0, none⟩) (Kd.R_types HO_9.out BK274.out (by decide)) (fun _ hk => hk.2) (.int .i64 ((rd_T42 l1 x25_2).f0))) (fun _ hk => hk.2) (.int .i64 ((rd_T42 l1 x25_2).f1))) (fun _ hk => hk.2) (.int .i64 ((rd_T42 l1 x25_2).f2))) (fun _ h_ => h_.1))) hb); have n1_ := Aside0.mk (blk_below (g := gb272) (o := .cells #[.string ((rd_T34 l0 x18_1).f0.f0), .string ((rd_T34 l0 x18_1).f0.f1), .int .i64 ((rd_T34 l0 x18_1).f0.f2), .int .i64 ((rd_T34 l0 x18_1).f0.f3), .int .i64 ((rd_T34 l0 x18_1).f0.f4), .int .i64 ((rd_T34 l0 x18_1).f0.f5), .int .i64 ((rd_T34 l0 x18_1).f1), .int .i64 ((rd_T34 l0 x18_1).f2), .int .i64 ((rd_T34 l0 x18_1).f3), .bool ((rd_T34 l0 x18_1).f4)] 34 (0, 0)) (by (with_reducible repeat (first | refine blk_drewN ?_ _ | refine blk_drew ?_ | refine blk_alloc ?_ _)); refine blk_far ?_ NB272_274.out _; (with_reducible repeat (first | refine blk_drewN ?_ _ | refine blk_drew ?_ | refine blk_alloc ?_ _)); refine blk_far ?_ NB272_274.out _; (with_reducible repeat (first | refine blk_drewN ?_ _ | refine blk_drew ?_ | refine blk_alloc ?_ _)); refine blk_far ?_ NB272_274.out _; (with_reducible repeat (first | refine blk_drewN ?_ _ | refine blk_drew ?_ | refine blk_alloc ?_ _)); exact BK272.out) hb); have n2_ := Aside0.mk (blk_below (g := gb274) (o := .cells #[.int .i64 ((rd_T42 l1 x25_2).f0), .int .i64 ((rd_T42 l1 x25_2).f1), .int .i64 ((rd_T42 l1 x25_2).f2)] 42 (0, 0)) (by (with_reducible repeat (first | refine blk_drewN ?_ _ | refine blk_drew ?_ | refine blk_alloc ?_ _)); refine blk_put (cs := #[.int .i64 ((rd_T42 l1 x25_2).f0), .int .i64 ((rd_T42 l1 x25_2).f1), .int .i64 0]) ?_ 2 _ rfl; (with_reducible repeat (first | refine blk_drewN ?_ _ | refine blk_drew ?_ | refine blk_alloc ?_ _)); refine blk_put (cs := #[.int .i64 ((rd_T42 l1 x25_2).f0), .int .i64 0, .int .i64 0]) ?_ 1 _ rfl; (with_reducible repeat (first | refine blk_drewN ?_ _ | refine blk_drew ?_ | refine blk_alloc ?_ _)); refine blk_put (cs := #[.int .i64 0, .int .i64 0, .int .i64 0]) ?_ 0 _ rfl; (with_reducible repeat (first | refine blk_drewN ?_ _ | refine blk_drew ?_ | refine blk_alloc ?_ _)); exact BK274.out) hb); have n3_ := Aside0.mk (below_step (by repeat (first | (with_reducible first | exact HB.out | apply below_alloc | apply pw_below_drewN | apply below_drew1 | refine below_set ?_ GE272.out | refine below_set ?_ GE274.out) | exact HB.out)) hb); clear HO_9; clear BK272; clear BK274; clear HB; have HO_9 := n0_; have BK272 := n1_; have BK274 := n2_; have HB := n3_; clear n0_ n1_ n2_ n3_; (try clear hb); (try clear hb2); (try clear hk); (try clear hi)) | ((with_reducible refine gate_dst (N := 14) rfl ?_); refine box_event ?hg (N := 14) ?hd (cs := #[.int .i64 0, .int .i64 0, .int .i64 0]) (t := 37) ?hr ?_; (case hd => rfl); (case hg => rfl); (case hr => first | (go_simp; done) | (go_simp; rfl)); intro gb279 hg w22 hbox hb; have n0_ := Aside0.mk (Kd.R_below (Kd.R_elderB (by (with_reducible repeat (first | apply Kd.R_alloc | apply Kd.R_drewN | apply Kd.R_drew)); exact HO_9.out) gb279 (Nat.le_of_eq hg.symm)) hb); have n1_ := Aside0.mk (blk_below (g := gb272) (o := .cells #[.string ((rd_T34 l0 x18_1).f0.f0), .string ((rd_T34 l0 x18_1).f0.f1), .int .i64 ((rd_T34 l0 x18_1).f0.f2), .int .i64 ((rd_T34 l0 x18_1).f0.f3), .int .i64 ((rd_T34 l0 x18_1).f0.f4), .int .i64 ((rd_T34 l0 x18_1).f0.f5), .int .i64 ((rd_T34 l0 x18_1).f1), .int .i64 ((rd_T34 l0 x18_1).f2), .int .i64 ((rd_T34 l0 x18_1).f3), .bool ((rd_T34 l0 x18_1).f4)] 34 (0, 0)) (by (with_reducible repeat (first | refine blk_drewN ?_ _ | refine blk_drew ?_ | refine blk_alloc ?_ _)); exact BK272.out) hb); have n2_ := Aside0.mk (blk_below (g := gb274) (o := .cells #[.int .i64 ((rd_T42 l1 x25_2).f0), .int .i64 ((rd_T42 l1 x25_2).f1), .int .i64 ((rd_T42 l1 x25_2).f2)] 42 (0, 0)) (by (with_reducible repeat (first | refine blk_drewN ?_ _ | refine blk_drew ?_ | refine blk_alloc ?_ _)); exact BK274.out) hb); have n3_ := Aside0.mk (below_step (by repeat (first | (with_reducible first | exact HB.out | apply below_alloc | apply pw_below_drewN | apply below_drew1 | refine below_set ?_ GE272.out | refine below_set ?_ GE274.out) | exact HB.out)) hb); have n4_ := Aside0.mk (hbox); have n5_ := Aside0.mk ((by rw [hg]; exact (below_size (by repeat (first | (with_reducible first | exact HB.out | apply below_alloc | apply pw_below_drewN | apply below_drew1 | refine below_set ?_ GE272.out | refine below_set ?_ GE274.out) | exact HB.out))) : w.heap.size ≤ gb279)); have n6_ := Aside0.mk ((by rw [hg]; exact (below_size (by repeat (first | (with_reducible first | exact HB.out | apply below_alloc | apply pw_below_drewN | apply below_drew1 | refine below_set ?_ GE272.out | refine below_set ?_ GE274.out) | exact HB.out))) : w.heap.size ≤ gb279)); have n7_ := Aside0.mk ((by rw [hg]; exact Nat.ne_of_lt (blk_lt (g := gb272) (o := .cells #[.string ((rd_T34 l0 x18_1).f0.f0), .string ((rd_T34 l0 x18_1).f0.f1), .int .i64 ((rd_T34 l0 x18_1).f0.f2), .int .i64 ((rd_T34 l0 x18_1).f0.f3), .int .i64 ((rd_T34 l0 x18_1).f0.f4), .int .i64 ((rd_T34 l0 x18_1).f0.f5), .int .i64 ((rd_T34 l0 x18_1).f1), .int .i64 ((rd_T34 l0 x18_1).f2), .int .i64 ((rd_T34 l0 x18_1).f3), .bool ((rd_T34 l0 x18_1).f4)] 34 (0, 0)) (by (with_reducible repeat (first | refine blk_drewN ?_ _ | refine blk_drew ?_ | refine blk_alloc ?_ _)); exact BK272.out)) : gb272 ≠ gb279)); have n8_ := Aside0.mk ((by rw [hg]; exact Nat.ne_of_gt (blk_lt (g := gb272) (o := .cells #[.string ((rd_T34 l0 x18_1).f0.f0), .string ((rd_T34 l0 x18_1).f0.f1), .int .i64 ((rd_T34 l0 x18_1).f0.f2), .int .i64 ((rd_T34 l0 x18_1).f0.f3), .int .i64 ((rd_T34 l0 x18_1).f0.f4), .int .i64 ((rd_T34 l0 x18_1).f0.f5), .int .i64 ((rd_T34 l0 x18_1).f1), .int .i64 ((rd_T34 l0 x18_1).f2), .int .i64 ((rd_T34 l0 x18_1).f3), .bool ((rd_T34 l0 x18_1).f4)] 34 (0, 0)) (by (with_reducible repeat (first | refine blk_drewN ?_ _ | refine blk_drew ?_ | refine blk_alloc ?_ _)); exact BK272.out)) : gb279 ≠ gb272)); have n9_ := Aside0.mk ((by rw [hg]; exact Nat.ne_of_lt (blk_lt (g := gb274) (o := .cells #[.int .i64 ((rd_T42 l1 x25_2).f0), .int .i64 ((rd_T42 l1 x25_2).f1), .int .i64 ((rd_T42 l1 x25_2).f2)] 42 (0, 0)) (by (with_reducible repeat (first | refine blk_drewN ?_ _ | refine blk_drew ?_ | refine blk_alloc ?_ _)); exact BK274.out)) : gb274 ≠ gb279)); have n10_ := Aside0.mk ((by rw [hg]; exact Nat.ne_of_gt (blk_lt (g := gb274) (o := .cells #[.int .i64 ((rd_T42 l1 x25_2).f0), .int .i64 ((rd_T42 l1 x25_2).f1), .int .i64 ((rd_T42 l1 x25_2).f2)] 42 (0, 0)) (by (with_reducible repeat (first | refine blk_drewN ?_ _ | refine blk_drew ?_ | refine blk_alloc ?_ _)); exact BK274.out)) : gb279 ≠ gb274)); clear HO_9; clear BK272; clear BK274; clear HB; have HO_9 := n0_; have BK272 := n1_; have BK274 := n2_; have HB := n3_; have BK279 := n4_; have GW279 := n5_; have GE279 := n6_; have NB272_279 := n7_; have NB279_272 := n8_; have NB274_279 := n9_; have NB279_274 := n10_; clear n0_ n1_ n2_ n3_ n4_ n5_ n6_ n7_ n8_ n9_ n10_; clear hb hbox hg; have hnb23 := NB279_272.out; have hnc23 := NB272_279.out; have hnb24 := NB279_274.out; have hnc24 := NB274_279.out; have hcz25_0 : w22.cell? ⟨gb279, 0, none⟩ = some (.int .i64 0) := (blk_cell BK279.out 0).trans rfl; have hcz25_1 : w22.cell? ⟨gb279, 1, none⟩ = some (.int .i64 0) := (blk_cell BK279.out 1).trans rfl; have hcz25_2 : w22.cell? ⟨gb279, 2, none⟩ = some (.int .i64 0) := (blk_cell BK279.out 2).trans rfl; have hfz25_0 := blk_frozen BK279.out 0; have hfz25_1 := blk_frozen BK279.out 1; have hfz25_2 := blk_frozen BK279.out 2) | ((with_reducible refine gate_builtin (b := .append) (xs := #[.tmp 45, .tmp 47]) rfl ?_); at_builtin; refine Kd.R_append k37 (w0 := w) w.heap.size rfl (.tmp 45) (.tmp 47) 38 37 (.agg #[(.int .i64 0), (.int .i64 0), (.int .i64 0)]) 24 rfl Try.underlying38 info37 rfl (by decide) (by omega) u9 x9_2 (⟨t275, t276, t277⟩ : S37) [.int .i64 t275, .int .i64 t276, .int .i64 t277] (fun k_ => k_ ≠ gb279) (fun _ => False) rfl (by first | (go_simp; done) | (go_simp; rfl)) ?aP (fun _ hk => hk.elim) ?aF ?aO ?aB ?aS ?aL ?_; (case aP => exact k37_mkM _ _ _ (⟨t275, t276, t277⟩ : S37)); (case aB => exact (by repeat (first | (with_reducible first | exact HB.out | apply below_alloc | apply pw_below_drewN | apply below_drew1 | refine below_set ?_ GE272.out | refine below_set ?_ GE274.out | refine below_set ?_ GE279.out) | exact HB.out))); (case aF => exact (fun k_ hk => Kd.freshB (g := gb279) (o := .cells #[.int .i64 t275, .int .i64 t276, .int .i64 t277] 37 (0, 0)) (by (with_reducible repeat (first | refine blk_drewN ?_ _ | refine blk_drew ?_ | refine blk_alloc ?_ _)); refine blk_put (cs := #[.int .i64 t275, .int .i64 t276, .int .i64 0]) ?_ 2 _ rfl; (with_reducible repeat (first | refine blk_drewN ?_ _ | refine blk_drew ?_ | refine blk_alloc ?_ _)); refine blk_put (cs := #[.int .i64 t275, .int .i64 0, .int .i64 0]) ?_ 1 _ rfl; (with_reducible repeat (first | refine blk_drewN ?_ _ | refine blk_drew ?_ | refine blk_alloc ?_ _)); refine blk_put (cs := #[.int .i64 0, .int .i64 0, .int .i64 0]) ?_ 0 _ rfl; (with_reducible repeat (first | refine blk_drewN ?_ _ | refine blk_drew ?_ | refine blk_alloc ?_ _)); exact BK279.out) k_ hk)); (case aO => exact (by (with_reducible repeat (first | apply Kd.R_alloc | apply Kd.R_drewN | apply Kd.R_drew)); exact Kd.R_mono (Kd.R_far (p := ⟨gb279, 2, none⟩) (Kd.R_far (p := ⟨gb279, 1, none⟩) (Kd.R_far (p := ⟨gb279, 0, none⟩) (Kd.R_mono HO_9.out (fun k_ hk => (⟨hk, hk.2⟩ : _ ∧ k_ ≠ gb279))) (fun _ hk => hk.2) (.int .i64 t275)) (fun _ hk => hk.2) (.int .i64 t276)) (fun _ hk => hk.2) (.int .i64 t277)) (fun _ hk => hk.1.2))); (case aS => exact (below_size (by repeat (first | (with_reducible first | exact HB.out | apply below_alloc | apply pw_below_drewN | apply below_drew1 | refine below_set ?_ GE272.out | refine below_set ?_ GE274.out | refine below_set ?_ GE279.out) | exact HB.out)))); (case aL => have := LMc16.out; omega); intro v281 w26 ho hb hg hat; rw [← Ny280.out] at ho; have n0_ := Aside0.mk (blk_grown (g := gb272) (o := .cells #[.string ((rd_T34 l0 x18_1).f0.f0), .string ((rd_T34 l0 x18_1).f0.f1), .int .i64 ((rd_T34 l0 x18_1).f0.f2), .int .i64 ((rd_T34 l0 x18_1).f0.f3), .int .i64 ((rd_T34 l0 x18_1).f0.f4), .int .i64 ((rd_T34 l0 x18_1).f0.f5), .int .i64 ((rd_T34 l0 x18_1).f1), .int .i64 ((rd_T34 l0 x18_1).f2), .int .i64 ((rd_T34 l0 x18_1).f3), .bool ((rd_T34 l0 x18_1).f4)] 34 (0, 0)) (by (with_reducible repeat (first | refine blk_drewN ?_ _ | refine blk_drew ?_ | refine blk_alloc ?_ _)); refine blk_far ?_ NB272_279.out _; (with_reducible repeat (first | refine blk_drewN ?_ _ | refine blk_drew ?_ | refine blk_alloc ?_ _)); refine blk_far ?_ NB272_279.out _; (with_reducible repeat (first | refine blk_drewN ?_ _ | refine blk_drew ?_ | refine blk_alloc ?_ _)); refine blk_far ?_ NB272_279.out _; (with_reducible repeat (first | refine blk_drewN ?_ _ | refine blk_drew ?_ | refine blk_alloc ?_ _)); exact BK272.out) hg (Kd.R_ne HO_9.out BK272.out (by decide))); have n1_ := Aside0.mk (blk_grown (g := gb274) (o := .cells #[.int .i64 ((rd_T42 l1 x25_2).f0), .int .i64 ((rd_T42 l1 x25_2).f1), .int .i64 ((rd_T42 l1 x25_2).f2)] 42 (0, 0)) (by (with_reducible repeat (first | refine blk_drewN ?_ _ | refine blk_drew ?_ | refine blk_alloc ?_ _)); refine blk_far ?_ NB274_279.out _; (with_reducible repeat (first | refine blk_drewN ?_ _ | refine blk_drew ?_ | refine blk_alloc ?_ _)); refine blk_far ?_ NB274_279.out _; (with_reducible repeat (first | refine blk_drewN ?_ _ | refine blk_drew ?_ | refine blk_alloc ?_ _)); refine blk_far ?_ NB274_279.out _; (with_reducible repeat (first | refine blk_drewN ?_ _ | refine blk_drew ?_ | refine blk_alloc ?_ _)); exact BK274.out) hg (Kd.R_ne HO_9.out BK274.out (by decide))); have n2_ := Aside0.mk (blk_grown (g := gb279) (o := .cells #[.int .i64 t275, .int .i64 t276, .int .i64 t277] 37 (0, 0)) (by (with_reducible repeat (first | refine blk_drewN ?_ _ | refine blk_drew ?_ | refine blk_alloc ?_ _)); refine blk_put (cs := #[.int .i64 t275, .int .i64 t276, .int .i64 0]) ?_ 2 _ rfl; (with_reducible repeat (first | refine blk_drewN ?_ _ | refine blk_drew ?_ | refine blk_alloc ?_ _)); refine blk_put (cs := #[.int .i64 t275, .int .i64 0, .int .i64 0]) ?_ 1 _ rfl; (with_reducible repeat (first | refine blk_drewN ?_ _ | refine blk_drew ?_ | refine blk_alloc ?_ _)); refine blk_put (cs := #[.int .i64 0, .int .i64 0, .int .i64 0]) ?_ 0 _ rfl; (with_reducible repeat (first | refine blk_drewN ?_ _ | refine blk_drew ?_ | refine blk_alloc ?_ _)); exact BK279.out) hg (Kd.R_away HO_9.out (fun _ hk => hk.2))); have n3_ := Aside0.mk (hb); have n4_ := Aside0.mk (ho); clear BK272; clear BK274; clear BK279; clear HB; clear HO_9; have BK272 := n0_; have BK274 := n1_; have BK279 := n2_; have HB := n3_; have HO282 := n4_; clear n0_ n1_ n2_ n3_ n4_; clear ho hb hg hat))
              go_roundg k2
              case measure => have := HK1.out; have := HK2.out; omega
              case rel => exact ⟨(y280), (wrap64 (x18_1 + 1)), (by first | rfl | (simp; done) | (simp [*]; done) | exact congrArg (Value.int _) (by unfold wrap64; omega)), H', ⟨by have := HK1.out; have := HK2.out; omega⟩, ⟨by (with_reducible repeat (first | apply Kd.R_alloc | apply Kd.R_drewN | apply Kd.R_drew)); exact Kd.R_mono HO282.out (fun _ hk => trivial)⟩, ⟨by repeat (first | (with_reducible first | exact HB.out | apply below_alloc | apply pw_below_drewN | apply below_drew1 | refine below_set ?_ GE272.out | refine below_set ?_ GE274.out | refine below_set ?_ GE279.out) | exact HB.out)⟩⟩
             ·rw [if_neg c16] at H
              exact absurd H (by simp)
            ·replace c15 := Bool.eq_false_iff.mpr c15
             subst c15
             have H1 : (score_All.l0 k2 l0 l1 a2 a3 x9_2 l0 (l0.length : Int) (wrap64 (x18_1 + 1))) = some r := by rw [if_neg (show ¬ (false = true) by decide)] at H; exact H
             clear H
             have H := H1
             clear H1
             have H' := Aside0.mk H
             clear H
             have p273 : 0 ≤ (x25_2 : Int) := of_decide_eq_true (by first | (with_reducible assumption) | assumption)
             have q273 : x25_2 < (l1.length : Int) := of_decide_eq_true (by first | (with_reducible assumption) | assumption)
             obtain ⟨ad273, e273, hx273_0, hx273_1, hx273_2⟩ := at_T42 HR1.out x25_2 p273 q273
             cases e273
             replace hx273_0 := (HB.out.cell (World.block_lt_of_cell? w _ hx273_0)).trans hx273_0
             replace hx273_1 := (HB.out.cell (World.block_lt_of_cell? w _ hx273_1)).trans hx273_1
             replace hx273_2 := (HB.out.cell (World.block_lt_of_cell? w _ hx273_2)).trans hx273_2
             replace p273 := eq_true p273
             replace q273 := eq_true q273
             go_wp2_with (first | ((with_reducible refine gate_dst (N := 13) rfl ?_); refine box_event ?hg (N := 13) ?hd (cs := #[.int .i64 0, .int .i64 0, .int .i64 0]) (t := 42) ?hr ?_; (case hd => rfl); (case hg => rfl); (case hr => first | (go_simp; done) | (go_simp; rfl)); intro gb274 hg w27 hbox hb; have n0_ := Aside0.mk (Kd.R_below (by (with_reducible repeat (first | apply Kd.R_alloc | apply Kd.R_drewN | apply Kd.R_drew)); exact HO_9.out) hb); have n1_ := Aside0.mk (blk_below (g := gb272) (o := .cells #[.string ((rd_T34 l0 x18_1).f0.f0), .string ((rd_T34 l0 x18_1).f0.f1), .int .i64 ((rd_T34 l0 x18_1).f0.f2), .int .i64 ((rd_T34 l0 x18_1).f0.f3), .int .i64 ((rd_T34 l0 x18_1).f0.f4), .int .i64 ((rd_T34 l0 x18_1).f0.f5), .int .i64 ((rd_T34 l0 x18_1).f1), .int .i64 ((rd_T34 l0 x18_1).f2), .int .i64 ((rd_T34 l0 x18_1).f3), .bool ((rd_T34 l0 x18_1).f4)] 34 (0, 0)) (by (with_reducible repeat (first | refine blk_drewN ?_ _ | refine blk_drew ?_ | refine blk_alloc ?_ _)); exact BK272.out) hb); have n2_ := Aside0.mk (below_step (by repeat (first | (with_reducible first | exact HB.out | apply below_alloc | apply pw_below_drewN | apply below_drew1 | refine below_set ?_ GE272.out) | exact HB.out)) hb); have n3_ := Aside0.mk (hbox); have n4_ := Aside0.mk ((by rw [hg]; exact (below_size (by repeat (first | (with_reducible first | exact HB.out | apply below_alloc | apply pw_below_drewN | apply below_drew1 | refine below_set ?_ GE272.out) | exact HB.out))) : w.heap.size ≤ gb274)); have n5_ := Aside0.mk ((by rw [hg]; exact (below_size (by repeat (first | (with_reducible first | exact HB.out | apply below_alloc | apply pw_below_drewN | apply below_drew1 | refine below_set ?_ GE272.out) | exact HB.out))) : w.heap.size ≤ gb274)); have n6_ := Aside0.mk ((by rw [hg]; exact Nat.ne_of_lt (blk_lt (g := gb272) (o := .cells #[.string ((rd_T34 l0 x18_1).f0.f0), .string ((rd_T34 l0 x18_1).f0.f1), .int .i64 ((rd_T34 l0 x18_1).f0.f2), .int .i64 ((rd_T34 l0 x18_1).f0.f3), .int .i64 ((rd_T34 l0 x18_1).f0.f4), .int .i64 ((rd_T34 l0 x18_1).f0.f5), .int .i64 ((rd_T34 l0 x18_1).f1), .int .i64 ((rd_T34 l0 x18_1).f2), .int .i64 ((rd_T34 l0 x18_1).f3), .bool ((rd_T34 l0 x18_1).f4)] 34 (0, 0)) (by (with_reducible repeat (first | refine blk_drewN ?_ _ | refine blk_drew ?_ | refine blk_alloc ?_ _)); exact BK272.out)) : gb272 ≠ gb274)); have n7_ := Aside0.mk ((by rw [hg]; exact Nat.ne_of_gt (blk_lt (g := gb272) (o := .cells #[.string ((rd_T34 l0 x18_1).f0.f0), .string ((rd_T34 l0 x18_1).f0.f1), .int .i64 ((rd_T34 l0 x18_1).f0.f2), .int .i64 ((rd_T34 l0 x18_1).f0.f3), .int .i64 ((rd_T34 l0 x18_1).f0.f4), .int .i64 ((rd_T34 l0 x18_1).f0.f5), .int .i64 ((rd_T34 l0 x18_1).f1), .int .i64 ((rd_T34 l0 x18_1).f2), .int .i64 ((rd_T34 l0 x18_1).f3), .bool ((rd_T34 l0 x18_1).f4)] 34 (0, 0)) (by (with_reducible repeat (first | refine blk_drewN ?_ _ | refine blk_drew ?_ | refine blk_alloc ?_ _)); exact BK272.out)) : gb274 ≠ gb272)); clear HO_9; clear BK272; clear HB; have HO_9 := n0_; have BK272 := n1_; have HB := n2_; have BK274 := n3_; have GW274 := n4_; have GE274 := n5_; have NB272_274 := n6_; have NB274_272 := n7_; clear n0_ n1_ n2_ n3_ n4_ n5_ n6_ n7_; clear hb hbox hg; have hnb28 := NB274_272.out; have hnc28 := NB272_274.out; have hcz29_0 : w27.cell? ⟨gb274, 0, none⟩ = some (.int .i64 0) := (blk_cell BK274.out 0).trans rfl; have hcz29_1 : w27.cell? ⟨gb274, 1, none⟩ = some (.int .i64 0) := (blk_cell BK274.out 1).trans rfl; have hcz29_2 : w27.cell? ⟨gb274, 2, none⟩ = some (.int .i64 0) := (blk_cell BK274.out 2).trans rfl; have hfz29_0 := blk_frozen BK274.out 0; have hfz29_1 := blk_frozen BK274.out 1; have hfz29_2 := blk_frozen BK274.out 2; have hcz30_0 : w27.cell? ⟨gb272, 0, none⟩ = some (.string ((rd_T34 l0 x18_1).f0.f0)) := (blk_cell BK272.out 0).trans rfl; have hcz30_1 : w27.cell? ⟨gb272, 1, none⟩ = some (.string ((rd_T34 l0 x18_1).f0.f1)) := (blk_cell BK272.out 1).trans rfl; have hcz30_2 : w27.cell? ⟨gb272, 2, none⟩ = some (.int .i64 ((rd_T34 l0 x18_1).f0.f2)) := (blk_cell BK272.out 2).trans rfl; have hcz30_3 : w27.cell? ⟨gb272, 3, none⟩ = some (.int .i64 ((rd_T34 l0 x18_1).f0.f3)) := (blk_cell BK272.out 3).trans rfl; have hcz30_4 : w27.cell? ⟨gb272, 4, none⟩ = some (.int .i64 ((rd_T34 l0 x18_1).f0.f4)) := (blk_cell BK272.out 4).trans rfl; have hcz30_5 : w27.cell? ⟨gb272, 5, none⟩ = some (.int .i64 ((rd_T34 l0 x18_1).f0.f5)) := (blk_cell BK272.out 5).trans rfl; have hcz30_6 : w27.cell? ⟨gb272, 6, none⟩ = some (.int .i64 ((rd_T34 l0 x18_1).f1)) := (blk_cell BK272.out 6).trans rfl; have hcz30_7 : w27.cell? ⟨gb272, 7, none⟩ = some (.int .i64 ((rd_T34 l0 x18_1).f2)) := (blk_cell BK272.out 7).trans rfl; have hcz30_8 : w27.cell? ⟨gb272, 8, none⟩ = some (.int .i64 ((rd_T34 l0 x18_1).f3)) := (blk_cell BK272.out 8).trans rfl; have hcz30_9 : w27.cell? ⟨gb272, 9, none⟩ = some (.bool ((rd_T34 l0 x18_1).f4)) := (blk_cell BK272.out 9).trans rfl; have hfz30_0 := blk_frozen BK272.out 0; have hfz30_1 := blk_frozen BK272.out 1; have hfz30_2 := blk_frozen BK272.out 2; have hfz30_3 := blk_frozen BK272.out 3; have hfz30_4 := blk_frozen BK272.out 4; have hfz30_5 := blk_frozen BK272.out 5; have hfz30_6 := blk_frozen BK272.out 6; have hfz30_7 := blk_frozen BK272.out 7; have hfz30_8 := blk_frozen BK272.out 8; have hfz30_9 := blk_frozen BK272.out 9) | ((with_reducible refine gate_callee (f := 19) rfl ?_); refine goesL_ (some 41) rfl rfl Try.func19 (by kernel_rfl) rfl #[.slice (some ad271) l0.length c0, .int .i64 x18_1, .agg #[.int .i64 ((rd_T42 l1 x25_2).f0), .int .i64 ((rd_T42 l1 x25_2).f1), .int .i64 ((rd_T42 l1 x25_2).f2)], .int .i64 a2, .bool a3] rfl (by (try simp only [List.map_toArray, List.map_cons, List.map_nil]); first | done | rfl | (simp only [List.length_drop, List.length_take]; rfl)) ?_; (with_reducible refine (score_Of.calls k2 _ _ l0 x18_1 ((rd_T42 l1 x25_2).f0) ((rd_T42 l1 x25_2).f1) ((rd_T42 l1 x25_2).f2) a2 a3 t275 t276 t277 false _ ?side1 ?side2 A14.out).mono ?_); (case side1 => exact Kd.C_below HR0.out (by repeat (first | (with_reducible first | exact HB.out | apply below_alloc | apply pw_below_drewN | apply below_drew1 | refine below_set ?_ GE272.out | refine below_set ?_ GE274.out) | exact HB.out))); (case side2 => exact HC0.out); rintro e w31 ⟨rfl, hb⟩; refine ⟨_, rfl, ?_⟩; have n0_ := Aside0.mk (Kd.R_below (by (with_reducible repeat (first | apply Kd.R_alloc | apply Kd.R_drewN | apply Kd.R_drew)); exact (Kd.R_mono (Kd.R_far (p := ⟨gb274, 2, none⟩) (Kd.R_far (p := ⟨gb274, 1, none⟩) (Kd.R_far (p := ⟨gb274, 0, none⟩) (Kd.R_types HO_9.out BK274.out (by decide)) (fun _ hk => hk.2) (.int .i64 ((rd_T42 l1 x25_2).f0))) (fun _ hk => hk.2) (.int .i64 ((rd_T42 l1 x25_2).f1))) (fun _ hk => hk.2) (.int .i64 ((rd_T42 l1 x25_2).f2))) (fun _ h_ => h_.1))) hb); have n1_ := Aside0.mk (blk_below (g := gb272) (o := .cells #[.string ((rd_T34 l0 x18_1).f0.f0), .string ((rd_T34 l0 x18_1).f0.f1), .int .i64 ((rd_T34 l0 x18_1).f0.f2), .int .i64 ((rd_T34 l0 x18_1).f0.f3), .int .i64 ((rd_T34 l0 x18_1).f0.f4), .int .i64 ((rd_T34 l0 x18_1).f0.f5), .int .i64 ((rd_T34 l0 x18_1).f1), .int .i64 ((rd_T34 l0 x18_1).f2), .int .i64 ((rd_T34 l0 x18_1).f3), .bool ((rd_T34 l0 x18_1).f4)] 34 (0, 0)) (by (with_reducible repeat (first | refine blk_drewN ?_ _ | refine blk_drew ?_ | refine blk_alloc ?_ _)); refine blk_far ?_ NB272_274.out _; (with_reducible repeat (first | refine blk_drewN ?_ _ | refine blk_drew ?_ | refine blk_alloc ?_ _)); refine blk_far ?_ NB272_274.out _; (with_reducible repeat (first | refine blk_drewN ?_ _ | refine blk_drew ?_ | refine blk_alloc ?_ _)); refine blk_far ?_ NB272_274.out _; (with_reducible repeat (first | refine blk_drewN ?_ _ | refine blk_drew ?_ | refine blk_alloc ?_ _)); exact BK272.out) hb); have n2_ := Aside0.mk (blk_below (g := gb274) (o := .cells #[.int .i64 ((rd_T42 l1 x25_2).f0), .int .i64 ((rd_T42 l1 x25_2).f1), .int .i64 ((rd_T42 l1 x25_2).f2)] 42 (0, 0)) (by (with_reducible repeat (first | refine blk_drewN ?_ _ | refine blk_drew ?_ | refine blk_alloc ?_ _)); refine blk_put (cs := #[.int .i64 ((rd_T42 l1 x25_2).f0), .int .i64 ((rd_T42 l1 x25_2).f1), .int .i64 0]) ?_ 2 _ rfl; (with_reducible repeat (first | refine blk_drewN ?_ _ | refine blk_drew ?_ | refine blk_alloc ?_ _)); refine blk_put (cs := #[.int .i64 ((rd_T42 l1 x25_2).f0), .int .i64 0, .int .i64 0]) ?_ 1 _ rfl; (with_reducible repeat (first | refine blk_drewN ?_ _ | refine blk_drew ?_ | refine blk_alloc ?_ _)); refine blk_put (cs := #[.int .i64 0, .int .i64 0, .int .i64 0]) ?_ 0 _ rfl; (with_reducible repeat (first | refine blk_drewN ?_ _ | refine blk_drew ?_ | refine blk_alloc ?_ _)); exact BK274.out) hb); have n3_ := Aside0.mk (below_step (by repeat (first | (with_reducible first | exact HB.out | apply below_alloc | apply pw_below_drewN | apply below_drew1 | refine below_set ?_ GE272.out | refine below_set ?_ GE274.out) | exact HB.out)) hb); clear HO_9; clear BK272; clear BK274; clear HB; have HO_9 := n0_; have BK272 := n1_; have BK274 := n2_; have HB := n3_; clear n0_ n1_ n2_ n3_; (try clear hb); (try clear hb2); (try clear hk); (try clear hi)) | ((with_reducible refine gate_dst (N := 14) rfl ?_); refine box_event ?hg (N := 14) ?hd (cs := #[.int .i64 0, .int .i64 0, .int .i64 0]) (t := 37) ?hr ?_; (case hd => rfl); (case hg => rfl); (case hr => first | (go_simp; done) | (go_simp; rfl)); intro gb279 hg w32 hbox hb; have n0_ := Aside0.mk (Kd.R_below (Kd.R_elderB (by (with_reducible repeat (first | apply Kd.R_alloc | apply Kd.R_drewN | apply Kd.R_drew)); exact HO_9.out) gb279 (Nat.le_of_eq hg.symm)) hb); have n1_ := Aside0.mk (blk_below (g := gb272) (o := .cells #[.string ((rd_T34 l0 x18_1).f0.f0), .string ((rd_T34 l0 x18_1).f0.f1), .int .i64 ((rd_T34 l0 x18_1).f0.f2), .int .i64 ((rd_T34 l0 x18_1).f0.f3), .int .i64 ((rd_T34 l0 x18_1).f0.f4), .int .i64 ((rd_T34 l0 x18_1).f0.f5), .int .i64 ((rd_T34 l0 x18_1).f1), .int .i64 ((rd_T34 l0 x18_1).f2), .int .i64 ((rd_T34 l0 x18_1).f3), .bool ((rd_T34 l0 x18_1).f4)] 34 (0, 0)) (by (with_reducible repeat (first | refine blk_drewN ?_ _ | refine blk_drew ?_ | refine blk_alloc ?_ _)); exact BK272.out) hb); have n2_ := Aside0.mk (blk_below (g := gb274) (o := .cells #[.int .i64 ((rd_T42 l1 x25_2).f0), .int .i64 ((rd_T42 l1 x25_2).f1), .int .i64 ((rd_T42 l1 x25_2).f2)] 42 (0, 0)) (by (with_reducible repeat (first | refine blk_drewN ?_ _ | refine blk_drew ?_ | refine blk_alloc ?_ _)); exact BK274.out) hb); have n3_ := Aside0.mk (below_step (by repeat (first | (with_reducible first | exact HB.out | apply below_alloc | apply pw_below_drewN | apply below_drew1 | refine below_set ?_ GE272.out | refine below_set ?_ GE274.out) | exact HB.out)) hb); have n4_ := Aside0.mk (hbox); have n5_ := Aside0.mk ((by rw [hg]; exact (below_size (by repeat (first | (with_reducible first | exact HB.out | apply below_alloc | apply pw_below_drewN | apply below_drew1 | refine below_set ?_ GE272.out | refine below_set ?_ GE274.out) | exact HB.out))) : w.heap.size ≤ gb279)); have n6_ := Aside0.mk ((by rw [hg]; exact (below_size (by repeat (first | (with_reducible first | exact HB.out | apply below_alloc | apply pw_below_drewN | apply below_drew1 | refine below_set ?_ GE272.out | refine below_set ?_ GE274.out) | exact HB.out))) : w.heap.size ≤ gb279)); have n7_ := Aside0.mk ((by rw [hg]; exact Nat.ne_of_lt (blk_lt (g := gb272) (o := .cells #[.string ((rd_T34 l0 x18_1).f0.f0), .string ((rd_T34 l0 x18_1).f0.f1), .int .i64 ((rd_T34 l0 x18_1).f0.f2), .int .i64 ((rd_T34 l0 x18_1).f0.f3), .int .i64 ((rd_T34 l0 x18_1).f0.f4), .int .i64 ((rd_T34 l0 x18_1).f0.f5), .int .i64 ((rd_T34 l0 x18_1).f1), .int .i64 ((rd_T34 l0 x18_1).f2), .int .i64 ((rd_T34 l0 x18_1).f3), .bool ((rd_T34 l0 x18_1).f4)] 34 (0, 0)) (by (with_reducible repeat (first | refine blk_drewN ?_ _ | refine blk_drew ?_ | refine blk_alloc ?_ _)); exact BK272.out)) : gb272 ≠ gb279)); have n8_ := Aside0.mk ((by rw [hg]; exact Nat.ne_of_gt (blk_lt (g := gb272) (o := .cells #[.string ((rd_T34 l0 x18_1).f0.f0), .string ((rd_T34 l0 x18_1).f0.f1), .int .i64 ((rd_T34 l0 x18_1).f0.f2), .int .i64 ((rd_T34 l0 x18_1).f0.f3), .int .i64 ((rd_T34 l0 x18_1).f0.f4), .int .i64 ((rd_T34 l0 x18_1).f0.f5), .int .i64 ((rd_T34 l0 x18_1).f1), .int .i64 ((rd_T34 l0 x18_1).f2), .int .i64 ((rd_T34 l0 x18_1).f3), .bool ((rd_T34 l0 x18_1).f4)] 34 (0, 0)) (by (with_reducible repeat (first | refine blk_drewN ?_ _ | refine blk_drew ?_ | refine blk_alloc ?_ _)); exact BK272.out)) : gb279 ≠ gb272)); have n9_ := Aside0.mk ((by rw [hg]; exact Nat.ne_of_lt (blk_lt (g := gb274) (o := .cells #[.int .i64 ((rd_T42 l1 x25_2).f0), .int .i64 ((rd_T42 l1 x25_2).f1), .int .i64 ((rd_T42 l1 x25_2).f2)] 42 (0, 0)) (by (with_reducible repeat (first | refine blk_drewN ?_ _ | refine blk_drew ?_ | refine blk_alloc ?_ _)); exact BK274.out)) : gb274 ≠ gb279)); have n10_ := Aside0.mk ((by rw [hg]; exact Nat.ne_of_gt (blk_lt (g := gb274) (o := .cells #[.int .i64 ((rd_T42 l1 x25_2).f0), .int .i64 ((rd_T42 l1 x25_2).f1), .int .i64 ((rd_T42 l1 x25_2).f2)] 42 (0, 0)) (by (with_reducible repeat (first | refine blk_drewN ?_ _ | refine blk_drew ?_ | refine blk_alloc ?_ _)); exact BK274.out)) : gb279 ≠ gb274)); clear HO_9; clear BK272; clear BK274; clear HB; have HO_9 := n0_; have BK272 := n1_; have BK274 := n2_; have HB := n3_; have BK279 := n4_; have GW279 := n5_; have GE279 := n6_; have NB272_279 := n7_; have NB279_272 := n8_; have NB274_279 := n9_; have NB279_274 := n10_; clear n0_ n1_ n2_ n3_ n4_ n5_ n6_ n7_ n8_ n9_ n10_; clear hb hbox hg; have hnb33 := NB279_272.out; have hnc33 := NB272_279.out; have hnb34 := NB279_274.out; have hnc34 := NB274_279.out; have hcz35_0 : w32.cell? ⟨gb279, 0, none⟩ = some (.int .i64 0) := (blk_cell BK279.out 0).trans rfl; have hcz35_1 : w32.cell? ⟨gb279, 1, none⟩ = some (.int .i64 0) := (blk_cell BK279.out 1).trans rfl; have hcz35_2 : w32.cell? ⟨gb279, 2, none⟩ = some (.int .i64 0) := (blk_cell BK279.out 2).trans rfl; have hfz35_0 := blk_frozen BK279.out 0; have hfz35_1 := blk_frozen BK279.out 1; have hfz35_2 := blk_frozen BK279.out 2))
             go_roundg k2
             case measure => have := HK1.out; have := HK2.out; omega
             case rel => exact ⟨(x9_2), (wrap64 (x18_1 + 1)), (by first | rfl | (simp; done) | (simp [*]; done) | exact congrArg (Value.int _) (by unfold wrap64; omega)), H', ⟨by have := HK1.out; have := HK2.out; omega⟩, ⟨by (with_reducible repeat (first | apply Kd.R_alloc | apply Kd.R_drewN | apply Kd.R_drew)); exact Kd.R_mono (Kd.R_far (p := ⟨gb279, 2, none⟩) (Kd.R_far (p := ⟨gb279, 1, none⟩) (Kd.R_far (p := ⟨gb279, 0, none⟩) (Kd.R_mono HO_9.out (fun k_ hk => (⟨hk, hk.2⟩ : _ ∧ k_ ≠ gb279))) (fun _ hk => hk.2) (.int .i64 t275)) (fun _ hk => hk.2) (.int .i64 t276)) (fun _ hk => hk.2) (.int .i64 t277)) (fun _ hk => trivial)⟩, ⟨by repeat (first | (with_reducible first | exact HB.out | apply below_alloc | apply pw_below_drewN | apply below_drew1 | refine below_set ?_ GE272.out | refine below_set ?_ GE274.out | refine below_set ?_ GE279.out) | exact HB.out)⟩⟩
           ·rw [if_neg c13] at H
            have c13b0 : (((rd_T42 l1 x25_2).f0) == ((rd_T34 l0 x18_1).f0.f5)) = false := beq_eq_false_iff_ne.mpr c13
            have c13b1 : (((rd_T42 l1 x25_2).f0) != ((rd_T34 l0 x18_1).f0.f5)) = true := bne_iff_ne.mpr c13
            have H' := Aside0.mk H
            clear H
            have p273 : 0 ≤ (x25_2 : Int) := of_decide_eq_true (by first | (with_reducible assumption) | assumption)
            have q273 : x25_2 < (l1.length : Int) := of_decide_eq_true (by first | (with_reducible assumption) | assumption)
            obtain ⟨ad273, e273, hx273_0, hx273_1, hx273_2⟩ := at_T42 HR1.out x25_2 p273 q273
            cases e273
            replace hx273_0 := (HB.out.cell (World.block_lt_of_cell? w _ hx273_0)).trans hx273_0
            replace hx273_1 := (HB.out.cell (World.block_lt_of_cell? w _ hx273_1)).trans hx273_1
            replace hx273_2 := (HB.out.cell (World.block_lt_of_cell? w _ hx273_2)).trans hx273_2
            replace p273 := eq_true p273
            replace q273 := eq_true q273
            go_wp2_with (first | ((with_reducible refine gate_dst (N := 13) rfl ?_); refine box_event ?hg (N := 13) ?hd (cs := #[.int .i64 0, .int .i64 0, .int .i64 0]) (t := 42) ?hr ?_; (case hd => rfl); (case hg => rfl); (case hr => first | (go_simp; done) | (go_simp; rfl)); intro gb274 hg w36 hbox hb; have n0_ := Aside0.mk (Kd.R_below (by (with_reducible repeat (first | apply Kd.R_alloc | apply Kd.R_drewN | apply Kd.R_drew)); exact HO_9.out) hb); have n1_ := Aside0.mk (blk_below (g := gb272) (o := .cells #[.string ((rd_T34 l0 x18_1).f0.f0), .string ((rd_T34 l0 x18_1).f0.f1), .int .i64 ((rd_T34 l0 x18_1).f0.f2), .int .i64 ((rd_T34 l0 x18_1).f0.f3), .int .i64 ((rd_T34 l0 x18_1).f0.f4), .int .i64 ((rd_T34 l0 x18_1).f0.f5), .int .i64 ((rd_T34 l0 x18_1).f1), .int .i64 ((rd_T34 l0 x18_1).f2), .int .i64 ((rd_T34 l0 x18_1).f3), .bool ((rd_T34 l0 x18_1).f4)] 34 (0, 0)) (by (with_reducible repeat (first | refine blk_drewN ?_ _ | refine blk_drew ?_ | refine blk_alloc ?_ _)); exact BK272.out) hb); have n2_ := Aside0.mk (below_step (by repeat (first | (with_reducible first | exact HB.out | apply below_alloc | apply pw_below_drewN | apply below_drew1 | refine below_set ?_ GE272.out) | exact HB.out)) hb); have n3_ := Aside0.mk (hbox); have n4_ := Aside0.mk ((by rw [hg]; exact (below_size (by repeat (first | (with_reducible first | exact HB.out | apply below_alloc | apply pw_below_drewN | apply below_drew1 | refine below_set ?_ GE272.out) | exact HB.out))) : w.heap.size ≤ gb274)); have n5_ := Aside0.mk ((by rw [hg]; exact (below_size (by repeat (first | (with_reducible first | exact HB.out | apply below_alloc | apply pw_below_drewN | apply below_drew1 | refine below_set ?_ GE272.out) | exact HB.out))) : w.heap.size ≤ gb274)); have n6_ := Aside0.mk ((by rw [hg]; exact Nat.ne_of_lt (blk_lt (g := gb272) (o := .cells #[.string ((rd_T34 l0 x18_1).f0.f0), .string ((rd_T34 l0 x18_1).f0.f1), .int .i64 ((rd_T34 l0 x18_1).f0.f2), .int .i64 ((rd_T34 l0 x18_1).f0.f3), .int .i64 ((rd_T34 l0 x18_1).f0.f4), .int .i64 ((rd_T34 l0 x18_1).f0.f5), .int .i64 ((rd_T34 l0 x18_1).f1), .int .i64 ((rd_T34 l0 x18_1).f2), .int .i64 ((rd_T34 l0 x18_1).f3), .bool ((rd_T34 l0 x18_1).f4)] 34 (0, 0)) (by (with_reducible repeat (first | refine blk_drewN ?_ _ | refine blk_drew ?_ | refine blk_alloc ?_ _)); exact BK272.out)) : gb272 ≠ gb274)); have n7_ := Aside0.mk ((by rw [hg]; exact Nat.ne_of_gt (blk_lt (g := gb272) (o := .cells #[.string ((rd_T34 l0 x18_1).f0.f0), .string ((rd_T34 l0 x18_1).f0.f1), .int .i64 ((rd_T34 l0 x18_1).f0.f2), .int .i64 ((rd_T34 l0 x18_1).f0.f3), .int .i64 ((rd_T34 l0 x18_1).f0.f4), .int .i64 ((rd_T34 l0 x18_1).f0.f5), .int .i64 ((rd_T34 l0 x18_1).f1), .int .i64 ((rd_T34 l0 x18_1).f2), .int .i64 ((rd_T34 l0 x18_1).f3), .bool ((rd_T34 l0 x18_1).f4)] 34 (0, 0)) (by (with_reducible repeat (first | refine blk_drewN ?_ _ | refine blk_drew ?_ | refine blk_alloc ?_ _)); exact BK272.out)) : gb274 ≠ gb272)); clear HO_9; clear BK272; clear HB; have HO_9 := n0_; have BK272 := n1_; have HB := n2_; have BK274 := n3_; have GW274 := n4_; have GE274 := n5_; have NB272_274 := n6_; have NB274_272 := n7_; clear n0_ n1_ n2_ n3_ n4_ n5_ n6_ n7_; clear hb hbox hg; have hnb37 := NB274_272.out; have hnc37 := NB272_274.out; have hcz38_0 : w36.cell? ⟨gb274, 0, none⟩ = some (.int .i64 0) := (blk_cell BK274.out 0).trans rfl; have hcz38_1 : w36.cell? ⟨gb274, 1, none⟩ = some (.int .i64 0) := (blk_cell BK274.out 1).trans rfl; have hcz38_2 : w36.cell? ⟨gb274, 2, none⟩ = some (.int .i64 0) := (blk_cell BK274.out 2).trans rfl; have hfz38_0 := blk_frozen BK274.out 0; have hfz38_1 := blk_frozen BK274.out 1; have hfz38_2 := blk_frozen BK274.out 2; have hcz39_0 : w36.cell? ⟨gb272, 0, none⟩ = some (.string ((rd_T34 l0 x18_1).f0.f0)) := (blk_cell BK272.out 0).trans rfl; have hcz39_1 : w36.cell? ⟨gb272, 1, none⟩ = some (.string ((rd_T34 l0 x18_1).f0.f1)) := (blk_cell BK272.out 1).trans rfl; have hcz39_2 : w36.cell? ⟨gb272, 2, none⟩ = some (.int .i64 ((rd_T34 l0 x18_1).f0.f2)) := (blk_cell BK272.out 2).trans rfl; have hcz39_3 : w36.cell? ⟨gb272, 3, none⟩ = some (.int .i64 ((rd_T34 l0 x18_1).f0.f3)) := (blk_cell BK272.out 3).trans rfl; have hcz39_4 : w36.cell? ⟨gb272, 4, none⟩ = some (.int .i64 ((rd_T34 l0 x18_1).f0.f4)) := (blk_cell BK272.out 4).trans rfl; have hcz39_5 : w36.cell? ⟨gb272, 5, none⟩ = some (.int .i64 ((rd_T34 l0 x18_1).f0.f5)) := (blk_cell BK272.out 5).trans rfl; have hcz39_6 : w36.cell? ⟨gb272, 6, none⟩ = some (.int .i64 ((rd_T34 l0 x18_1).f1)) := (blk_cell BK272.out 6).trans rfl; have hcz39_7 : w36.cell? ⟨gb272, 7, none⟩ = some (.int .i64 ((rd_T34 l0 x18_1).f2)) := (blk_cell BK272.out 7).trans rfl; have hcz39_8 : w36.cell? ⟨gb272, 8, none⟩ = some (.int .i64 ((rd_T34 l0 x18_1).f3)) := (blk_cell BK272.out 8).trans rfl; have hcz39_9 : w36.cell? ⟨gb272, 9, none⟩ = some (.bool ((rd_T34 l0 x18_1).f4)) := (blk_cell BK272.out 9).trans rfl; have hfz39_0 := blk_frozen BK272.out 0; have hfz39_1 := blk_frozen BK272.out 1; have hfz39_2 := blk_frozen BK272.out 2; have hfz39_3 := blk_frozen BK272.out 3; have hfz39_4 := blk_frozen BK272.out 4; have hfz39_5 := blk_frozen BK272.out 5; have hfz39_6 := blk_frozen BK272.out 6; have hfz39_7 := blk_frozen BK272.out 7; have hfz39_8 := blk_frozen BK272.out 8; have hfz39_9 := blk_frozen BK272.out 9))
            go_roundg k2
            case measure => have := HK1.out; have := HK2.out; omega
            case rel => exact ⟨(x9_2), (wrap64 (x25_2 + 1)), (by first | rfl | (simp; done) | (simp [*]; done) | exact congrArg (Value.int _) (by unfold wrap64; omega)), H', ⟨by have := HK1.out; have := HK2.out; omega⟩, ⟨by (with_reducible repeat (first | apply Kd.R_alloc | apply Kd.R_drewN | apply Kd.R_drew)); exact Kd.R_mono (Kd.R_far (p := ⟨gb274, 2, none⟩) (Kd.R_far (p := ⟨gb274, 1, none⟩) (Kd.R_far (p := ⟨gb274, 0, none⟩) (Kd.R_types HO_9.out BK274.out (by decide)) (fun _ hk => hk.2) (.int .i64 ((rd_T42 l1 x25_2).f0))) (fun _ hk => hk.2) (.int .i64 ((rd_T42 l1 x25_2).f1))) (fun _ hk => hk.2) (.int .i64 ((rd_T42 l1 x25_2).f2))) (fun _ hk => trivial)⟩, ⟨by (with_reducible repeat (first | refine blk_drewN ?_ _ | refine blk_drew ?_ | refine blk_alloc ?_ _)); refine blk_far ?_ NB272_274.out _; (with_reducible repeat (first | refine blk_drewN ?_ _ | refine blk_drew ?_ | refine blk_alloc ?_ _)); refine blk_far ?_ NB272_274.out _; (with_reducible repeat (first | refine blk_drewN ?_ _ | refine blk_drew ?_ | refine blk_alloc ?_ _)); refine blk_far ?_ NB272_274.out _; (with_reducible repeat (first | refine blk_drewN ?_ _ | refine blk_drew ?_ | refine blk_alloc ?_ _)); exact BK272.out⟩, ⟨by repeat (first | (with_reducible first | exact HB.out | apply below_alloc | apply pw_below_drewN | apply below_drew1 | refine below_set ?_ GE272.out | refine below_set ?_ GE274.out) | exact HB.out)⟩⟩
          ·rw [if_neg c12] at H
           exact absurd H (by simp)
         ·rw [if_neg c11] at H
          exact absurd H (by simp)
        ·rw [if_neg c10] at H
         have c10b0 : decide (x25_2 < (l1.length : Int)) = false := decide_eq_false c10
         clear c10
         have H' := Aside0.mk H
         clear H
         go_wp2
         go_roundg k2
         case measure => have := HK1.out; have := HK2.out; omega
         case rel => exact ⟨(x9_2), (wrap64 (x18_1 + 1)), (by first | rfl | (simp; done) | (simp [*]; done) | exact congrArg (Value.int _) (by unfold wrap64; omega)), H', ⟨by have := HK1.out; have := HK2.out; omega⟩, ⟨by (with_reducible repeat (first | apply Kd.R_alloc | apply Kd.R_drewN | apply Kd.R_drew)); exact HO_9.out⟩, ⟨by repeat (first | (with_reducible first | exact HB.out | apply below_alloc | apply pw_below_drewN | apply below_drew1 | refine below_set ?_ GE272.out) | exact HB.out)⟩⟩
     ·rw [if_neg c7] at H
      exact absurd H (by simp)
    ·rw [if_neg c6] at H
     exact absurd H (by simp)
   ·rw [if_neg c5] at H
    have c5b0 : decide (x18_1 < (l0.length : Int)) = false := decide_eq_false c5
    clear c5
    obtain rfl := Option.some.inj H
    go_wp2
    go_ret
    exact ⟨_, by first | rfl | (simp [errW_none, errW_some] <;> rfl) | (simp [*, errW_none, errW_some] <;> rfl), by (with_reducible repeat (first | apply Kd.R_alloc | apply Kd.R_drewN | apply Kd.R_drew)); exact HO_9.out, by repeat (first | (with_reducible first | exact HB.out | apply below_alloc | apply pw_below_drewN | apply below_drew1) | exact HB.out)⟩

end Go.Proofs.Ytdmhdbebjjhopaa.PA
