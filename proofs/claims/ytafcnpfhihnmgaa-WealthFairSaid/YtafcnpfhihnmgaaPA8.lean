-- Written by a program of this seat's session (wip/tools/ownprint.py, over the kit's printer) out of the translation: functions and their contracts.
import Derived.Test.YtafcnpfhihnmgaaPA0
import Derived.Test.YtafcnpfhihnmgaaPA2
namespace Go.Proofs.Ytafcnpfhihnmgaa.PA
open Go.RowKit Go.Proofs.YtafcnpfhihnmgaaW.PrintWords Go.Proofs.YtafcnpfhihnmgaaW.PrintLast Go.Proofs.YtafcnpfhihnmgaaW.PrintMore
attribute [local go_sem] max2_int min2_int max_two min_two max_three min_three max_four min_four   -- for this text's walks alone
set_option linter.unusedVariables false
set_option linter.unusedSimpArgs false

/-! ### flagstoneref30_SameInts: function 21 -/
def flagstoneref30_SameInts.l0 : Nat → List Int → List Int → Int → Option (Bool)
  | 0, _, _, _ => none
  | k + 1, x0, x1, x5 => if x5 < (x0.length : Int) then (if 0 ≤ x5 then (if x5 < (x1.length : Int) then (if (rd x0 x5) = (rd x1 x5) then (flagstoneref30_SameInts.l0 k x0 x1 (wrap64 (x5 + 1))) else (some false)) else (none)) else (none)) else (some true)
def flagstoneref30_SameInts.f (k : Nat) (l0 : List Int) (l1 : List Int) : Option (Bool) := if (l0.length : Int) = (l1.length : Int) then (flagstoneref30_SameInts.l0 k l0 l1 0) else (some false)
theorem flagstoneref30_SameInts.mono_l : ∀ k, (∀ y0 y1 y2, LeO (flagstoneref30_SameInts.l0 k y0 y1 y2) (flagstoneref30_SameInts.l0 (k + 1) y0 y1 y2))
  | 0 => fun _ _ _ r h => by simp [flagstoneref30_SameInts.l0] at h
  | k + 1 => by
    have ih0 := flagstoneref30_SameInts.mono_l k
    · intro y0 y1 y2
      unfold flagstoneref30_SameInts.l0
      repeat' first
      | (with_reducible exact ih0 _ _ _)
      | (with_reducible exact LeO.refl _)
      | (with_reducible exact LeO.none _)
      | (with_reducible refine LeO.ite ?_ ?_)
      | (with_reducible refine LeO.bind ?_ (fun _ => ?_))
      | exact ih0 _ _ _
      | exact LeO.none _
      | refine LeO.ite ?_ ?_
      | refine LeO.bind ?_ (fun _ => ?_)
theorem flagstoneref30_SameInts.mono : ∀ a0 a1 k, LeO (flagstoneref30_SameInts.f k a0 a1) (flagstoneref30_SameInts.f (k + 1) a0 a1) := by
  intro a0 a1 k
  have ih0 := flagstoneref30_SameInts.mono_l k
  unfold flagstoneref30_SameInts.f
  repeat' first
      | (with_reducible exact ih0 _ _ _)
      | (with_reducible exact LeO.refl _)
      | (with_reducible exact LeO.none _)
      | (with_reducible refine LeO.ite ?_ ?_)
      | (with_reducible refine LeO.bind ?_ (fun _ => ?_))
      | exact ih0 _ _ _
      | exact LeO.none _
      | refine LeO.ite ?_ ?_
      | refine LeO.bind ?_ (fun _ => ?_)
set_option maxHeartbeats 8000000 in
set_option maxRecDepth 100000 in
theorem flagstoneref30_SameInts.calls (k : Nat) (A0 : Option Addr) (c0 : Nat) (l0 : List Int) (A1 : Option Addr) (c1 : Nat) (l1 : List Int) (r : Bool) (w : World) (hr0 : Kd.C (Kd.int .i64) w A0 l0.length l0) (hc0 : l0.length ≤ c0) (hr1 : Kd.C (Kd.int .i64) w A1 l1.length l1) (hc1 : l1.length ≤ c1) (h : flagstoneref30_SameInts.f k l0 l1 = some r) :
    Calls Try.prog 21 #[.slice A0 l0.length c0, .slice A1 l1.length c1] w fun e w' => e = .returned (.bool r) ∧ Drawn0 w w' := by
  have HR0 := Aside0.mk hr0
  have HC0 := Aside0.mk hc0
  clear hr0 hc0
  have HR1 := Aside0.mk hr1
  have HC1 := Aside0.mk hc1
  clear hr1 hc1
  have H : (if (l0.length : Int) = (l1.length : Int) then (flagstoneref30_SameInts.l0 k l0 l1 0) else (some false)) = some r := h
  clear h
  by_cases c3 : (l0.length : Int) = (l1.length : Int)
  · rw [if_pos c3] at H
    have c3b0 : ((l0.length : Int) == (l1.length : Int)) = true := beq_iff_eq.mpr c3
    have c3b1 : ((l0.length : Int) != (l1.length : Int)) = false := bne_eq_false_iff_eq.mpr c3
    have c3b2 : (l0.length == l1.length) = true := by first | simpa using c3 | (simp at c3 ⊢; omega)
    clear c3
    have H' := Aside0.mk H
    clear H
    go_enter Try.func21, Try.ntmps21
    go_wp2
    repeat (go_quiet (fail); try go_wp2)
    go_loopg [5] k (fun kq v5 w' => ∃ (x5_1 : Int), v5 = .int .i64 x5_1 ∧ Aside0 (flagstoneref30_SameInts.l0 kq l0 l1 x5_1 = some r) ∧ Aside0 (kq ≤ k) ∧ Drawn0 w w')
    case atStart => exact ⟨(0), (by first | rfl | (simp; done) | (simp [*]; done) | exact congrArg (Value.int _) (by unfold wrap64; omega)), H', ⟨Nat.le_refl _⟩, by repeat (first | exact Drawn0.refl _ | apply Drawn0.step)⟩
    case round =>
      clear H'
      try clear c1
      try clear c2
      try clear p2
      try clear c3
      try clear c3b0
      try clear c3b1
      try clear c3b2
      obtain ⟨x5_1, rfl, HA, HK1, ⟨m1, rfl⟩⟩ := hrel
      cases gk with
      | zero => exact absurd HA.out (by simp [flagstoneref30_SameInts.l0])
      | succ k1 =>
        have H := HA.out
        clear HA
        simp only [flagstoneref30_SameInts.l0] at H
        by_cases c4 : x5_1 < (l0.length : Int)
        · rw [if_pos c4] at H
          have c4b0 : decide (x5_1 < (l0.length : Int)) = true := decide_eq_true c4
          clear c4
          by_cases c5 : 0 ≤ x5_1
          · rw [if_pos c5] at H
            have c5b0 : decide (0 ≤ x5_1) = true := decide_eq_true c5
            clear c5
            by_cases c6 : x5_1 < (l1.length : Int)
            · rw [if_pos c6] at H
              have c6b0 : decide (x5_1 < (l1.length : Int)) = true := decide_eq_true c6
              clear c6
              by_cases c7 : (rd l0 x5_1) = (rd l1 x5_1)
              · rw [if_pos c7] at H
                have c7b0 : ((rd l0 x5_1) == (rd l1 x5_1)) = true := beq_iff_eq.mpr c7
                have c7b1 : ((rd l0 x5_1) != (rd l1 x5_1)) = false := bne_eq_false_iff_eq.mpr c7
                clear c7
                have H' := Aside0.mk H
                clear H
                have p189 : 0 ≤ (x5_1 : Int) := of_decide_eq_true (by first | (with_reducible assumption) | assumption)
                have q189 : x5_1 < (l0.length : Int) := of_decide_eq_true (by first | (with_reducible assumption) | assumption)
                obtain ⟨ad189, e189, hx189_0⟩ := Kd.at_int HR0.out x5_1 p189 q189
                cases e189
                replace p189 := eq_true p189
                replace q189 := eq_true q189
                have p190 : 0 ≤ (x5_1 : Int) := of_decide_eq_true (by first | (with_reducible assumption) | assumption)
                have q190 : x5_1 < (l1.length : Int) := of_decide_eq_true (by first | (with_reducible assumption) | assumption)
                obtain ⟨ad190, e190, hx190_0⟩ := Kd.at_int HR1.out x5_1 p190 q190
                cases e190
                replace p190 := eq_true p190
                replace q190 := eq_true q190
                go_wp2
                repeat (go_quiet (fail); try go_wp2)
                go_roundg k1
                case measure => have := HK1.out; omega
                case rel => exact ⟨(wrap64 (x5_1 + 1)), (by first | rfl | (simp; done) | (simp [*]; done) | exact congrArg (Value.int _) (by unfold wrap64; omega)), H', ⟨by have := HK1.out; omega⟩, by repeat (first | exact Drawn0.refl _ | apply Drawn0.step)⟩
              · rw [if_neg c7] at H
                have c7b0 : ((rd l0 x5_1) == (rd l1 x5_1)) = false := beq_eq_false_iff_ne.mpr c7
                have c7b1 : ((rd l0 x5_1) != (rd l1 x5_1)) = true := bne_iff_ne.mpr c7
                obtain rfl := Option.some.inj H
                have p189 : 0 ≤ (x5_1 : Int) := of_decide_eq_true (by first | (with_reducible assumption) | assumption)
                have q189 : x5_1 < (l0.length : Int) := of_decide_eq_true (by first | (with_reducible assumption) | assumption)
                obtain ⟨ad189, e189, hx189_0⟩ := Kd.at_int HR0.out x5_1 p189 q189
                cases e189
                replace p189 := eq_true p189
                replace q189 := eq_true q189
                have p190 : 0 ≤ (x5_1 : Int) := of_decide_eq_true (by first | (with_reducible assumption) | assumption)
                have q190 : x5_1 < (l1.length : Int) := of_decide_eq_true (by first | (with_reducible assumption) | assumption)
                obtain ⟨ad190, e190, hx190_0⟩ := Kd.at_int HR1.out x5_1 p190 q190
                cases e190
                replace p190 := eq_true p190
                replace q190 := eq_true q190
                go_wp2
                repeat (go_quiet (fail); try go_wp2)
                go_ret
                exact ⟨by first | rfl | (simp; done) | (simp [*]; done), by repeat (first | exact Drawn0.refl _ | apply Drawn0.step)⟩
            · rw [if_neg c6] at H
              exact absurd H (by simp)
          · rw [if_neg c5] at H
            exact absurd H (by simp)
        · rw [if_neg c4] at H
          have c4b0 : decide (x5_1 < (l0.length : Int)) = false := decide_eq_false c4
          clear c4
          obtain rfl := Option.some.inj H
          go_wp2
          repeat (go_quiet (fail); try go_wp2)
          go_ret
          exact ⟨by first | rfl | (simp; done) | (simp [*]; done), by repeat (first | exact Drawn0.refl _ | apply Drawn0.step)⟩
  · rw [if_neg c3] at H
    have c3b0 : ((l0.length : Int) == (l1.length : Int)) = false := beq_eq_false_iff_ne.mpr c3
    have c3b1 : ((l0.length : Int) != (l1.length : Int)) = true := bne_iff_ne.mpr c3
    have c3b2 : (l0.length == l1.length) = false := by first | simpa using c3 | (simp at c3 ⊢; omega)
    obtain rfl := Option.some.inj H
    go_enter Try.func21, Try.ntmps21
    go_wp2
    repeat (go_quiet (fail); try go_wp2)
    go_ret
    exact ⟨by first | rfl | (simp; done) | (simp [*]; done), by repeat (first | exact Drawn0.refl _ | apply Drawn0.step)⟩

/-! ### wealth_Path: function 22 -/
mutual
def wealth_Path.l0 : Nat → Int → Bool → List Int → List (S28) → Int → Int → Int → Int → Int → Int → Int → Int → Option (List Int)
  | 0, _, _, _, _, _, _, _, _, _, _, _, _ => none
  | k + 1, x1, x2, x9, x19, x20, x21, x192000, x192001, x192002, x193000, x193001, x193002 => if x21 < x20 then (if 0 ≤ x21 then (if x21 < (x19.length : Int) then (wealth_Path.l1 k x1 x2 x9 0 x19 x20 x21 0 x192000 x192001 x192002 x192000 x192001 x192002 x193000 x193001 x193002 ((rd_T28 x19 x21).f0) ((rd_T28 x19 x21).f1) ((rd_T28 x19 x21).f2)) else (none)) else (none)) else (some x9)
def wealth_Path.l1 : Nat → Int → Bool → List Int → Int → List (S28) → Int → Int → Int → Int → Int → Int → Int → Int → Int → Int → Int → Int → Int → Int → Int → Option (List Int)
  | 0, _, _, _, _, _, _, _, _, _, _, _, _, _, _, _, _, _, _, _, _ => none
  | k + 1, x1, x2, x9, x12, x19, x20, x21, x26, x516, x517, x518, x192000, x192001, x192002, x193000, x193001, x193002, x195000, x195001, x195002 => if x26 < 3 then (if x26 = 0 then ((wealth_Factor.f k x195000 x195001 x195002 x1 x516 x2).bind fun bt198 => ((wealth_Grow.f k x193000 bt198.1 bt198.2).bind fun t200 => (wealth_Path.l1 k x1 x2 x9 (wrap64 (x12 + t200)) x19 x20 x21 (wrap64 (x26 + 1)) x516 x517 x518 x192000 x192001 x192002 t200 x193001 x193002 x195000 x195001 x195002))) else (if x26 = 1 then ((wealth_Factor.f k x195000 x195001 x195002 x1 x517 x2).bind fun bt201 => ((wealth_Grow.f k x193001 bt201.1 bt201.2).bind fun t203 => (wealth_Path.l1 k x1 x2 x9 (wrap64 (x12 + t203)) x19 x20 x21 (wrap64 (x26 + 1)) x516 x517 x518 x192000 x192001 x192002 x193000 t203 x193002 x195000 x195001 x195002))) else (if x26 = 2 then ((wealth_Factor.f k x195000 x195001 x195002 x1 x518 x2).bind fun bt204 => ((wealth_Grow.f k x193002 bt204.1 bt204.2).bind fun t206 => (wealth_Path.l1 k x1 x2 x9 (wrap64 (x12 + t206)) x19 x20 x21 (wrap64 (x26 + 1)) x516 x517 x518 x192000 x192001 x192002 x193000 x193001 t206 x195000 x195001 x195002))) else (none)))) else (if x9.length < 17592186044416 then (wealth_Path.l0 k x1 x2 (x9 ++ [wrap64 (Int.tdiv x12 3)]) x19 x20 (wrap64 (x21 + 1)) x192000 x192001 x192002 x193000 x193001 x193002) else (none))
end
def wealth_Path.f (k : Nat) (l0 : List (S28)) (a1 : Int) (a2 : Bool) : Option (List Int) := wealth_Path.l0 k a1 a2 ([] : List Int) l0 (l0.length : Int) 0 1 2 4 4294967296 4294967296 4294967296
theorem wealth_Path.mono_l : ∀ k, (∀ y0 y1 y2 y3 y4 y5 y6 y7 y8 y9 y10 y11, LeO (wealth_Path.l0 k y0 y1 y2 y3 y4 y5 y6 y7 y8 y9 y10 y11) (wealth_Path.l0 (k + 1) y0 y1 y2 y3 y4 y5 y6 y7 y8 y9 y10 y11)) ∧ (∀ y0 y1 y2 y3 y4 y5 y6 y7 y8 y9 y10 y11 y12 y13 y14 y15 y16 y17 y18 y19, LeO (wealth_Path.l1 k y0 y1 y2 y3 y4 y5 y6 y7 y8 y9 y10 y11 y12 y13 y14 y15 y16 y17 y18 y19) (wealth_Path.l1 (k + 1) y0 y1 y2 y3 y4 y5 y6 y7 y8 y9 y10 y11 y12 y13 y14 y15 y16 y17 y18 y19))
  | 0 => ⟨fun _ _ _ _ _ _ _ _ _ _ _ _ r h => by simp [wealth_Path.l0] at h, fun _ _ _ _ _ _ _ _ _ _ _ _ _ _ _ _ _ _ _ _ r h => by simp [wealth_Path.l1] at h⟩
  | k + 1 => by
    obtain ⟨ih0, ih1⟩ := wealth_Path.mono_l k
    refine ⟨?_, ?_⟩
    · intro y0 y1 y2 y3 y4 y5 y6 y7 y8 y9 y10 y11
      unfold wealth_Path.l0
      repeat' first
      | (with_reducible exact ih0 _ _ _ _ _ _ _ _ _ _ _ _)
      | (with_reducible exact ih1 _ _ _ _ _ _ _ _ _ _ _ _ _ _ _ _ _ _ _ _)
      | (with_reducible exact wealth_Factor.mono _ _ _ _ _ _ _)
      | (with_reducible exact wealth_Grow.mono _ _ _ _)
      | (with_reducible exact LeO.refl _)
      | (with_reducible exact LeO.none _)
      | (with_reducible refine LeO.ite ?_ ?_)
      | (with_reducible refine LeO.bind ?_ (fun _ => ?_))
      | exact ih0 _ _ _ _ _ _ _ _ _ _ _ _
      | exact ih1 _ _ _ _ _ _ _ _ _ _ _ _ _ _ _ _ _ _ _ _
      | exact wealth_Factor.mono _ _ _ _ _ _ _
      | exact wealth_Grow.mono _ _ _ _
      | exact LeO.none _
      | refine LeO.ite ?_ ?_
      | refine LeO.bind ?_ (fun _ => ?_)
    · intro y0 y1 y2 y3 y4 y5 y6 y7 y8 y9 y10 y11 y12 y13 y14 y15 y16 y17 y18 y19
      unfold wealth_Path.l1
      repeat' first
      | (with_reducible exact ih0 _ _ _ _ _ _ _ _ _ _ _ _)
      | (with_reducible exact ih1 _ _ _ _ _ _ _ _ _ _ _ _ _ _ _ _ _ _ _ _)
      | (with_reducible exact wealth_Factor.mono _ _ _ _ _ _ _)
      | (with_reducible exact wealth_Grow.mono _ _ _ _)
      | (with_reducible exact LeO.refl _)
      | (with_reducible exact LeO.none _)
      | (with_reducible refine LeO.ite ?_ ?_)
      | (with_reducible refine LeO.bind ?_ (fun _ => ?_))
      | exact ih0 _ _ _ _ _ _ _ _ _ _ _ _
      | exact ih1 _ _ _ _ _ _ _ _ _ _ _ _ _ _ _ _ _ _ _ _
      | exact wealth_Factor.mono _ _ _ _ _ _ _
      | exact wealth_Grow.mono _ _ _ _
      | exact LeO.none _
      | refine LeO.ite ?_ ?_
      | refine LeO.bind ?_ (fun _ => ?_)
theorem wealth_Path.mono : ∀ a0 a1 a2 k, LeO (wealth_Path.f k a0 a1 a2) (wealth_Path.f (k + 1) a0 a1 a2) := by
  intro a0 a1 a2 k
  obtain ⟨ih0, ih1⟩ := wealth_Path.mono_l k
  unfold wealth_Path.f
  repeat' first
      | (with_reducible exact ih0 _ _ _ _ _ _ _ _ _ _ _ _)
      | (with_reducible exact ih1 _ _ _ _ _ _ _ _ _ _ _ _ _ _ _ _ _ _ _ _)
      | (with_reducible exact wealth_Factor.mono _ _ _ _ _ _ _)
      | (with_reducible exact wealth_Grow.mono _ _ _ _)
      | (with_reducible exact LeO.refl _)
      | (with_reducible exact LeO.none _)
      | (with_reducible refine LeO.ite ?_ ?_)
      | (with_reducible refine LeO.bind ?_ (fun _ => ?_))
      | exact ih0 _ _ _ _ _ _ _ _ _ _ _ _
      | exact ih1 _ _ _ _ _ _ _ _ _ _ _ _ _ _ _ _ _ _ _ _
      | exact wealth_Factor.mono _ _ _ _ _ _ _
      | exact wealth_Grow.mono _ _ _ _
      | exact LeO.none _
      | refine LeO.ite ?_ ?_
      | refine LeO.bind ?_ (fun _ => ?_)
set_option maxHeartbeats 8000000 in
set_option maxRecDepth 100000 in
theorem wealth_Path.calls (k : Nat) (A0 : Option Addr) (c0 : Nat) (l0 : List (S28)) (a1 : Int) (a2 : Bool) (r : List Int) (w : World) (hr0 : Kd.C k28 w A0 l0.length l0) (hc0 : l0.length ≤ c0) (h : wealth_Path.f k l0 a1 a2 = some r) :
    Calls Try.prog 22 #[.slice A0 l0.length c0, .int .i64 a1, .bool a2] w fun e w' => ∃ v0_ : Value, e = .returned (v0_) ∧ Kd.R (Kd.int .i64) 3 w' w.heap.size (fun _ => True) v0_ r ∧ Below w.heap.size w w' := by
  have hu68 := Try.underlying68
  have hu28 := Try.underlying28
  have hix68_0 : ∀ (v0_ v1_ v2_ : Value) (W_ : World), (Instr.index 68 (.agg #[v0_, v1_, v2_]) (.int .i64 0)).run Try.prog W_ = .ok v0_ W_ := fun _ _ _ _ => by kernel_rfl
  have hix68_1 : ∀ (v0_ v1_ v2_ : Value) (W_ : World), (Instr.index 68 (.agg #[v0_, v1_, v2_]) (.int .i64 1)).run Try.prog W_ = .ok v1_ W_ := fun _ _ _ _ => by kernel_rfl
  have hix68_2 : ∀ (v0_ v1_ v2_ : Value) (W_ : World), (Instr.index 68 (.agg #[v0_, v1_, v2_]) (.int .i64 2)).run Try.prog W_ = .ok v2_ W_ := fun _ _ _ _ => by kernel_rfl
  have HR0 := Aside0.mk hr0
  have HC0 := Aside0.mk hc0
  clear hr0 hc0
  have HB := Aside0.mk (Below.refl w.heap.size w)
  have H : (wealth_Path.l0 k a1 a2 ([] : List Int) l0 (l0.length : Int) 0 1 2 4 4294967296 4294967296 4294967296) = some r := h
  clear h
  have H' := Aside0.mk H
  clear H
  go_enter Try.func22, Try.ntmps22
  go_wp2_with (first | ((with_reducible refine gate_dst (N := 7) rfl ?_); refine box_event ?hg (N := 7) ?hd (cs := #[.int .i64 0, .int .i64 0, .int .i64 0]) (t := 68) ?hr ?_; (case hd => rfl); (case hg => rfl); (case hr => first | (go_simp; done) | (go_simp; rfl)); intro gb191 hg w4 hbox hb; have n0_ := Aside0.mk (below_step (by repeat (first | (with_reducible first | exact HB.out | apply below_alloc | apply pw_below_drewN | apply below_drew1) | exact HB.out)) hb); have n1_ := Aside0.mk (hbox); have n2_ := Aside0.mk ((by rw [hg]; exact (below_size (by repeat (first | (with_reducible first | exact HB.out | apply below_alloc | apply pw_below_drewN | apply below_drew1) | exact HB.out))) : w.heap.size ≤ gb191)); have n3_ := Aside0.mk ((by rw [hg]; exact (below_size (by repeat (first | (with_reducible first | exact HB.out | apply below_alloc | apply pw_below_drewN | apply below_drew1) | exact HB.out))) : w.heap.size ≤ gb191)); clear HB; have HB := n0_; have BK191 := n1_; have GW191 := n2_; have GE191 := n3_; clear n0_ n1_ n2_ n3_; clear hb hbox hg; have hcz5_0 : w4.cell? ⟨gb191, 0, none⟩ = some (.int .i64 0) := (blk_cell BK191.out 0).trans rfl; have hcz5_1 : w4.cell? ⟨gb191, 1, none⟩ = some (.int .i64 0) := (blk_cell BK191.out 1).trans rfl; have hcz5_2 : w4.cell? ⟨gb191, 2, none⟩ = some (.int .i64 0) := (blk_cell BK191.out 2).trans rfl; have hfz5_0 := blk_frozen BK191.out 0; have hfz5_1 := blk_frozen BK191.out 1; have hfz5_2 := blk_frozen BK191.out 2) | ((with_reducible refine gate_dst (N := 8) rfl ?_); refine box_event ?hg (N := 8) ?hd (cs := #[.int .i64 0, .int .i64 0, .int .i64 0]) (t := 68) ?hr ?_; (case hd => rfl); (case hg => rfl); (case hr => first | (go_simp; done) | (go_simp; rfl)); intro gb192 hg w6 hbox hb; have n0_ := Aside0.mk (blk_below (g := gb191) (o := .cells #[.int .i64 1, .int .i64 2, .int .i64 4] 68 (0, 0)) (by (with_reducible repeat (first | refine blk_drewN ?_ _ | refine blk_drew ?_ | refine blk_alloc ?_ _)); refine blk_put (cs := #[.int .i64 1, .int .i64 2, .int .i64 0]) ?_ 2 _ rfl; (with_reducible repeat (first | refine blk_drewN ?_ _ | refine blk_drew ?_ | refine blk_alloc ?_ _)); refine blk_put (cs := #[.int .i64 1, .int .i64 0, .int .i64 0]) ?_ 1 _ rfl; (with_reducible repeat (first | refine blk_drewN ?_ _ | refine blk_drew ?_ | refine blk_alloc ?_ _)); refine blk_put (cs := #[.int .i64 0, .int .i64 0, .int .i64 0]) ?_ 0 _ rfl; (with_reducible repeat (first | refine blk_drewN ?_ _ | refine blk_drew ?_ | refine blk_alloc ?_ _)); exact BK191.out) hb); have n1_ := Aside0.mk (below_step (by repeat (first | (with_reducible first | exact HB.out | apply below_alloc | apply pw_below_drewN | apply below_drew1 | refine below_set ?_ GE191.out) | exact HB.out)) hb); have n2_ := Aside0.mk (hbox); have n3_ := Aside0.mk ((by rw [hg]; exact (below_size (by repeat (first | (with_reducible first | exact HB.out | apply below_alloc | apply pw_below_drewN | apply below_drew1 | refine below_set ?_ GE191.out) | exact HB.out))) : w.heap.size ≤ gb192)); have n4_ := Aside0.mk ((by rw [hg]; exact (below_size (by repeat (first | (with_reducible first | exact HB.out | apply below_alloc | apply pw_below_drewN | apply below_drew1 | refine below_set ?_ GE191.out) | exact HB.out))) : w.heap.size ≤ gb192)); have n5_ := Aside0.mk ((by rw [hg]; exact Nat.ne_of_lt (blk_lt (g := gb191) (o := .cells #[.int .i64 1, .int .i64 2, .int .i64 4] 68 (0, 0)) (by (with_reducible repeat (first | refine blk_drewN ?_ _ | refine blk_drew ?_ | refine blk_alloc ?_ _)); refine blk_put (cs := #[.int .i64 1, .int .i64 2, .int .i64 0]) ?_ 2 _ rfl; (with_reducible repeat (first | refine blk_drewN ?_ _ | refine blk_drew ?_ | refine blk_alloc ?_ _)); refine blk_put (cs := #[.int .i64 1, .int .i64 0, .int .i64 0]) ?_ 1 _ rfl; (with_reducible repeat (first | refine blk_drewN ?_ _ | refine blk_drew ?_ | refine blk_alloc ?_ _)); refine blk_put (cs := #[.int .i64 0, .int .i64 0, .int .i64 0]) ?_ 0 _ rfl; (with_reducible repeat (first | refine blk_drewN ?_ _ | refine blk_drew ?_ | refine blk_alloc ?_ _)); exact BK191.out)) : gb191 ≠ gb192)); have n6_ := Aside0.mk ((by rw [hg]; exact Nat.ne_of_gt (blk_lt (g := gb191) (o := .cells #[.int .i64 1, .int .i64 2, .int .i64 4] 68 (0, 0)) (by (with_reducible repeat (first | refine blk_drewN ?_ _ | refine blk_drew ?_ | refine blk_alloc ?_ _)); refine blk_put (cs := #[.int .i64 1, .int .i64 2, .int .i64 0]) ?_ 2 _ rfl; (with_reducible repeat (first | refine blk_drewN ?_ _ | refine blk_drew ?_ | refine blk_alloc ?_ _)); refine blk_put (cs := #[.int .i64 1, .int .i64 0, .int .i64 0]) ?_ 1 _ rfl; (with_reducible repeat (first | refine blk_drewN ?_ _ | refine blk_drew ?_ | refine blk_alloc ?_ _)); refine blk_put (cs := #[.int .i64 0, .int .i64 0, .int .i64 0]) ?_ 0 _ rfl; (with_reducible repeat (first | refine blk_drewN ?_ _ | refine blk_drew ?_ | refine blk_alloc ?_ _)); exact BK191.out)) : gb192 ≠ gb191)); clear BK191; clear HB; have BK191 := n0_; have HB := n1_; have BK192 := n2_; have GW192 := n3_; have GE192 := n4_; have NB191_192 := n5_; have NB192_191 := n6_; clear n0_ n1_ n2_ n3_ n4_ n5_ n6_; clear hb hbox hg; have hnb7 := NB192_191.out; have hnc7 := NB191_192.out; have hcz8_0 : w6.cell? ⟨gb192, 0, none⟩ = some (.int .i64 0) := (blk_cell BK192.out 0).trans rfl; have hcz8_1 : w6.cell? ⟨gb192, 1, none⟩ = some (.int .i64 0) := (blk_cell BK192.out 1).trans rfl; have hcz8_2 : w6.cell? ⟨gb192, 2, none⟩ = some (.int .i64 0) := (blk_cell BK192.out 2).trans rfl; have hfz8_0 := blk_frozen BK192.out 0; have hfz8_1 := blk_frozen BK192.out 1; have hfz8_2 := blk_frozen BK192.out 2))
  go_loopg [9, 21] k (fun kq v9 v21 w' => ∃ (x9_1 : List Int) (x21_1 : Int) (x193000_1 : Int) (x193001_1 : Int) (x193002_1 : Int), v21 = .int .i64 x21_1 ∧ Aside0 (wealth_Path.l0 kq a1 a2 x9_1 l0 (l0.length : Int) x21_1 1 2 4 x193000_1 x193001_1 x193002_1 = some r) ∧ Aside0 (kq ≤ k) ∧ Aside0 (Kd.R (Kd.int .i64) 3 w' w.heap.size (fun _ => True) v9 x9_1) ∧ Aside0 (w'.heap[gb191]? = some (.cells #[.int .i64 1, .int .i64 2, .int .i64 4] 68 (0, 0))) ∧ Aside0 (w'.heap[gb192]? = some (.cells #[.int .i64 x193000_1, .int .i64 x193001_1, .int .i64 x193002_1] 68 (0, 0))) ∧ Aside0 (Below w.heap.size w w'))
  case atStart => exact ⟨(([] : List Int)), (0), (4294967296), (4294967296), (4294967296), (by first | rfl | (simp; done) | (simp [*]; done) | exact congrArg (Value.int _) (by unfold wrap64; omega)), H', ⟨Nat.le_refl _⟩, ⟨by first | exact Kd.R_nil _ _ _ _ _ | exact Kd.N_nil _ _ _ _ _ | exact Kd.V_nil _ _ _ _ _ | exact Kd.Q_nil _ _ _ _ _ | exact Kd.S_nil _ _ _ _ _⟩, ⟨by (with_reducible repeat (first | refine blk_drewN ?_ _ | refine blk_drew ?_ | refine blk_alloc ?_ _)); refine blk_far ?_ NB191_192.out _; (with_reducible repeat (first | refine blk_drewN ?_ _ | refine blk_drew ?_ | refine blk_alloc ?_ _)); refine blk_far ?_ NB191_192.out _; (with_reducible repeat (first | refine blk_drewN ?_ _ | refine blk_drew ?_ | refine blk_alloc ?_ _)); refine blk_far ?_ NB191_192.out _; (with_reducible repeat (first | refine blk_drewN ?_ _ | refine blk_drew ?_ | refine blk_alloc ?_ _)); exact BK191.out⟩, ⟨by (with_reducible repeat (first | refine blk_drewN ?_ _ | refine blk_drew ?_ | refine blk_alloc ?_ _)); refine blk_put (cs := #[.int .i64 4294967296, .int .i64 4294967296, .int .i64 0]) ?_ 2 _ rfl; (with_reducible repeat (first | refine blk_drewN ?_ _ | refine blk_drew ?_ | refine blk_alloc ?_ _)); refine blk_put (cs := #[.int .i64 4294967296, .int .i64 0, .int .i64 0]) ?_ 1 _ rfl; (with_reducible repeat (first | refine blk_drewN ?_ _ | refine blk_drew ?_ | refine blk_alloc ?_ _)); refine blk_put (cs := #[.int .i64 0, .int .i64 0, .int .i64 0]) ?_ 0 _ rfl; (with_reducible repeat (first | refine blk_drewN ?_ _ | refine blk_drew ?_ | refine blk_alloc ?_ _)); exact BK192.out⟩, ⟨by repeat (first | (with_reducible first | exact HB.out | apply below_alloc | apply pw_below_drewN | apply below_drew1 | refine below_set ?_ GE191.out | refine below_set ?_ GE192.out) | exact HB.out)⟩⟩
  case round =>
    clear H'
    try clear c2
    try clear p2
    try clear p6
    try clear c7
    try clear hcz5_0
    try clear hcz5_1
    try clear hcz5_2
    try clear hcz8_0
    try clear hcz8_1
    try clear hcz8_2
    try clear hfz5_0
    try clear hfz5_1
    try clear hfz5_2
    try clear hfz8_0
    try clear hfz8_1
    try clear hfz8_2
    obtain ⟨x9_1, x21_1, x193000_1, x193001_1, x193002_1, rfl, HA, HK1, HO_9, BK191, BK192, HB⟩ := hrel
    cases gk with
    | zero => exact absurd HA.out (by simp [wealth_Path.l0])
    | succ k1 =>
      have H := HA.out
      clear HA
      simp only [wealth_Path.l0] at H
      by_cases c9 : x21_1 < (l0.length : Int)
      · rw [if_pos c9] at H
        have c9b0 : decide (x21_1 < (l0.length : Int)) = true := decide_eq_true c9
        clear c9
        by_cases c10 : 0 ≤ x21_1
        · rw [if_pos c10] at H
          have c10b0 : decide (0 ≤ x21_1) = true := decide_eq_true c10
          clear c10
          by_cases c11 : x21_1 < (l0.length : Int)
          · rw [if_pos c11] at H
            have c11b0 : decide (x21_1 < (l0.length : Int)) = true := decide_eq_true c11
            clear c11
            have H' := Aside0.mk H
            clear H
            have p193 : 0 ≤ (x21_1 : Int) := of_decide_eq_true (by first | (with_reducible assumption) | assumption)
            have q193 : x21_1 < (l0.length : Int) := of_decide_eq_true (by first | (with_reducible assumption) | assumption)
            obtain ⟨ad193, e193, hx193_0, hx193_1, hx193_2⟩ := at_T28 HR0.out x21_1 p193 q193
            cases e193
            replace hx193_0 := (HB.out.cell (World.block_lt_of_cell? w _ hx193_0)).trans hx193_0
            replace hx193_1 := (HB.out.cell (World.block_lt_of_cell? w _ hx193_1)).trans hx193_1
            replace hx193_2 := (HB.out.cell (World.block_lt_of_cell? w _ hx193_2)).trans hx193_2
            replace p193 := eq_true p193
            replace q193 := eq_true q193
            go_wp2_with (first | ((with_reducible refine gate_dst (N := 11) rfl ?_); refine box_event ?hg (N := 11) ?hd (cs := #[.int .i64 0, .int .i64 0, .int .i64 0]) (t := 28) ?hr ?_; (case hd => rfl); (case hg => rfl); (case hr => first | (go_simp; done) | (go_simp; rfl)); intro gb194 hg w12 hbox hb; have n0_ := Aside0.mk (Kd.R_below (by (with_reducible repeat (first | apply Kd.R_alloc | apply Kd.R_drewN | apply Kd.R_drew)); exact HO_9.out) hb); have n1_ := Aside0.mk (blk_below (g := gb191) (o := .cells #[.int .i64 1, .int .i64 2, .int .i64 4] 68 (0, 0)) (by (with_reducible repeat (first | refine blk_drewN ?_ _ | refine blk_drew ?_ | refine blk_alloc ?_ _)); exact BK191.out) hb); have n2_ := Aside0.mk (blk_below (g := gb192) (o := .cells #[.int .i64 x193000_1, .int .i64 x193001_1, .int .i64 x193002_1] 68 (0, 0)) (by (with_reducible repeat (first | refine blk_drewN ?_ _ | refine blk_drew ?_ | refine blk_alloc ?_ _)); exact BK192.out) hb); have n3_ := Aside0.mk (below_step (by repeat (first | (with_reducible first | exact HB.out | apply below_alloc | apply pw_below_drewN | apply below_drew1 | refine below_set ?_ GE191.out | refine below_set ?_ GE192.out) | exact HB.out)) hb); have n4_ := Aside0.mk (hbox); have n5_ := Aside0.mk ((by rw [hg]; exact (below_size (by repeat (first | (with_reducible first | exact HB.out | apply below_alloc | apply pw_below_drewN | apply below_drew1 | refine below_set ?_ GE191.out | refine below_set ?_ GE192.out) | exact HB.out))) : w.heap.size ≤ gb194)); have n6_ := Aside0.mk ((by rw [hg]; exact (below_size (by repeat (first | (with_reducible first | exact HB.out | apply below_alloc | apply pw_below_drewN | apply below_drew1 | refine below_set ?_ GE191.out | refine below_set ?_ GE192.out) | exact HB.out))) : w.heap.size ≤ gb194)); have n7_ := Aside0.mk ((by rw [hg]; exact Nat.ne_of_lt (blk_lt (g := gb191) (o := .cells #[.int .i64 1, .int .i64 2, .int .i64 4] 68 (0, 0)) (by (with_reducible repeat (first | refine blk_drewN ?_ _ | refine blk_drew ?_ | refine blk_alloc ?_ _)); exact BK191.out)) : gb191 ≠ gb194)); have n8_ := Aside0.mk ((by rw [hg]; exact Nat.ne_of_gt (blk_lt (g := gb191) (o := .cells #[.int .i64 1, .int .i64 2, .int .i64 4] 68 (0, 0)) (by (with_reducible repeat (first | refine blk_drewN ?_ _ | refine blk_drew ?_ | refine blk_alloc ?_ _)); exact BK191.out)) : gb194 ≠ gb191)); have n9_ := Aside0.mk ((by rw [hg]; exact Nat.ne_of_lt (blk_lt (g := gb192) (o := .cells #[.int .i64 x193000_1, .int .i64 x193001_1, .int .i64 x193002_1] 68 (0, 0)) (by (with_reducible repeat (first | refine blk_drewN ?_ _ | refine blk_drew ?_ | refine blk_alloc ?_ _)); exact BK192.out)) : gb192 ≠ gb194)); have n10_ := Aside0.mk ((by rw [hg]; exact Nat.ne_of_gt (blk_lt (g := gb192) (o := .cells #[.int .i64 x193000_1, .int .i64 x193001_1, .int .i64 x193002_1] 68 (0, 0)) (by (with_reducible repeat (first | refine blk_drewN ?_ _ | refine blk_drew ?_ | refine blk_alloc ?_ _)); exact BK192.out)) : gb194 ≠ gb192)); clear HO_9; clear BK191; clear BK192; clear HB; have HO_9 := n0_; have BK191 := n1_; have BK192 := n2_; have HB := n3_; have BK194 := n4_; have GW194 := n5_; have GE194 := n6_; have NB191_194 := n7_; have NB194_191 := n8_; have NB192_194 := n9_; have NB194_192 := n10_; clear n0_ n1_ n2_ n3_ n4_ n5_ n6_ n7_ n8_ n9_ n10_; clear hb hbox hg; have hnb13 := NB194_191.out; have hnc13 := NB191_194.out; have hnb14 := NB194_192.out; have hnc14 := NB192_194.out; have hcz15_0 : w12.cell? ⟨gb194, 0, none⟩ = some (.int .i64 0) := (blk_cell BK194.out 0).trans rfl; have hcz15_1 : w12.cell? ⟨gb194, 1, none⟩ = some (.int .i64 0) := (blk_cell BK194.out 1).trans rfl; have hcz15_2 : w12.cell? ⟨gb194, 2, none⟩ = some (.int .i64 0) := (blk_cell BK194.out 2).trans rfl; have hfz15_0 := blk_frozen BK194.out 0; have hfz15_1 := blk_frozen BK194.out 1; have hfz15_2 := blk_frozen BK194.out 2; have hnb16 := NB191_192.out; have hnc16 := NB192_191.out; have hcz17_0 : w12.cell? ⟨gb191, 0, none⟩ = some (.int .i64 1) := (blk_cell BK191.out 0).trans rfl; have hcz17_1 : w12.cell? ⟨gb191, 1, none⟩ = some (.int .i64 2) := (blk_cell BK191.out 1).trans rfl; have hcz17_2 : w12.cell? ⟨gb191, 2, none⟩ = some (.int .i64 4) := (blk_cell BK191.out 2).trans rfl; have hfz17_0 := blk_frozen BK191.out 0; have hfz17_1 := blk_frozen BK191.out 1; have hfz17_2 := blk_frozen BK191.out 2))
            go_loopg [12, 26] k1 (fun kq v12 v26 w' => ∃ (x12_2 : Int) (x26_2 : Int) (x193000_2 : Int) (x193001_2 : Int) (x193002_2 : Int), v12 = .int .i64 x12_2 ∧ v26 = .int .i64 x26_2 ∧ Aside0 (wealth_Path.l1 kq a1 a2 x9_1 x12_2 l0 (l0.length : Int) x21_1 x26_2 1 2 4 1 2 4 x193000_2 x193001_2 x193002_2 ((rd_T28 l0 x21_1).f0) ((rd_T28 l0 x21_1).f1) ((rd_T28 l0 x21_1).f2) = some r) ∧ Aside0 (kq ≤ k1) ∧ Aside0 (Kd.R (Kd.int .i64) 3 w' w.heap.size (fun _ => True) u9 x9_1) ∧ Aside0 (w'.heap[gb191]? = some (.cells #[.int .i64 1, .int .i64 2, .int .i64 4] 68 (0, 0))) ∧ Aside0 (w'.heap[gb192]? = some (.cells #[.int .i64 x193000_2, .int .i64 x193001_2, .int .i64 x193002_2] 68 (0, 0))) ∧ Aside0 (w'.heap[gb194]? = some (.cells #[.int .i64 ((rd_T28 l0 x21_1).f0), .int .i64 ((rd_T28 l0 x21_1).f1), .int .i64 ((rd_T28 l0 x21_1).f2)] 28 (0, 0))) ∧ Aside0 (Below w.heap.size w w'))
            case atStart => exact ⟨(0), (0), (x193000_1), (x193001_1), (x193002_1), (by first | rfl | (simp; done) | (simp [*]; done) | exact congrArg (Value.int _) (by unfold wrap64; omega)), (by first | rfl | (simp; done) | (simp [*]; done) | exact congrArg (Value.int _) (by unfold wrap64; omega)), H', ⟨Nat.le_refl _⟩, ⟨by (with_reducible repeat (first | apply Kd.R_alloc | apply Kd.R_drewN | apply Kd.R_drew)); exact Kd.R_mono (Kd.R_far (p := ⟨gb194, 2, none⟩) (Kd.R_far (p := ⟨gb194, 1, none⟩) (Kd.R_far (p := ⟨gb194, 0, none⟩) (Kd.R_types HO_9.out BK194.out (by decide)) (fun _ hk => hk.2) (.int .i64 ((rd_T28 l0 x21_1).f0))) (fun _ hk => hk.2) (.int .i64 ((rd_T28 l0 x21_1).f1))) (fun _ hk => hk.2) (.int .i64 ((rd_T28 l0 x21_1).f2))) (fun _ hk => trivial)⟩, ⟨by (with_reducible repeat (first | refine blk_drewN ?_ _ | refine blk_drew ?_ | refine blk_alloc ?_ _)); refine blk_far ?_ NB191_194.out _; (with_reducible repeat (first | refine blk_drewN ?_ _ | refine blk_drew ?_ | refine blk_alloc ?_ _)); refine blk_far ?_ NB191_194.out _; (with_reducible repeat (first | refine blk_drewN ?_ _ | refine blk_drew ?_ | refine blk_alloc ?_ _)); refine blk_far ?_ NB191_194.out _; (with_reducible repeat (first | refine blk_drewN ?_ _ | refine blk_drew ?_ | refine blk_alloc ?_ _)); exact BK191.out⟩, ⟨by (with_reducible repeat (first | refine blk_drewN ?_ _ | refine blk_drew ?_ | refine blk_alloc ?_ _)); refine blk_far ?_ NB192_194.out _; (with_reducible repeat (first | refine blk_drewN ?_ _ | refine blk_drew ?_ | refine blk_alloc ?_ _)); refine blk_far ?_ NB192_194.out _; (with_reducible repeat (first | refine blk_drewN ?_ _ | refine blk_drew ?_ | refine blk_alloc ?_ _)); refine blk_far ?_ NB192_194.out _; (with_reducible repeat (first | refine blk_drewN ?_ _ | refine blk_drew ?_ | refine blk_alloc ?_ _)); exact BK192.out⟩, ⟨by (with_reducible repeat (first | refine blk_drewN ?_ _ | refine blk_drew ?_ | refine blk_alloc ?_ _)); refine blk_put (cs := #[.int .i64 ((rd_T28 l0 x21_1).f0), .int .i64 ((rd_T28 l0 x21_1).f1), .int .i64 0]) ?_ 2 _ rfl; (with_reducible repeat (first | refine blk_drewN ?_ _ | refine blk_drew ?_ | refine blk_alloc ?_ _)); refine blk_put (cs := #[.int .i64 ((rd_T28 l0 x21_1).f0), .int .i64 0, .int .i64 0]) ?_ 1 _ rfl; (with_reducible repeat (first | refine blk_drewN ?_ _ | refine blk_drew ?_ | refine blk_alloc ?_ _)); refine blk_put (cs := #[.int .i64 0, .int .i64 0, .int .i64 0]) ?_ 0 _ rfl; (with_reducible repeat (first | refine blk_drewN ?_ _ | refine blk_drew ?_ | refine blk_alloc ?_ _)); exact BK194.out⟩, ⟨by repeat (first | (with_reducible first | exact HB.out | apply below_alloc | apply pw_below_drewN | apply below_drew1 | refine below_set ?_ GE191.out | refine below_set ?_ GE192.out | refine below_set ?_ GE194.out) | exact HB.out)⟩⟩
            case round =>
              clear H'
              try clear c1
              try clear p1
              try clear q1
              try clear hx1
              try clear c2
              try clear p2
              try clear p6
              try clear c7
              try clear c9
              try clear c9b0
              try clear c10
              try clear c10b0
              try clear c11
              try clear c11b0
              try clear c13
              try clear c14
              try clear c16
              try clear hcz15_0
              try clear hcz15_1
              try clear hcz15_2
              try clear hcz17_0
              try clear hcz17_1
              try clear hcz17_2
              try clear hcz5_0
              try clear hcz5_1
              try clear hcz5_2
              try clear hcz8_0
              try clear hcz8_1
              try clear hcz8_2
              try clear hfz15_0
              try clear hfz15_1
              try clear hfz15_2
              try clear hfz17_0
              try clear hfz17_1
              try clear hfz17_2
              try clear hfz5_0
              try clear hfz5_1
              try clear hfz5_2
              try clear hfz8_0
              try clear hfz8_1
              try clear hfz8_2
              try clear hx193_0
              try clear hx193_1
              try clear hx193_2
              try clear p193
              try clear p2
              try clear p6
              try clear q193
              obtain ⟨x12_2, x26_2, x193000_2, x193001_2, x193002_2, rfl, rfl, HA, HK2, HO_9, BK191, BK192, BK194, HB⟩ := hrel
              cases gk with
              | zero => exact absurd HA.out (by simp [wealth_Path.l1])
              | succ k2 =>
                have H := HA.out
                clear HA
                simp only [wealth_Path.l1] at H
                by_cases c18 : x26_2 < 3
                · rw [if_pos c18] at H
                  have c18b0 : decide (x26_2 < 3) = true := decide_eq_true c18
                  clear c18
                  by_cases c19 : x26_2 = 0
                  · subst c19
                    rw [if_pos rfl] at H
                    replace H := Option.bind_eq_some_iff.mp H
                    obtain ⟨⟨t198, t199⟩, A200, H⟩ := H
                    replace H : ((wealth_Grow.f k2 x193000_2 t198 t199).bind fun t200 => (wealth_Path.l1 k2 a1 a2 x9_1 (wrap64 (x12_2 + t200)) l0 (l0.length : Int) x21_1 (wrap64 (0 + 1)) 1 2 4 1 2 4 t200 x193001_2 x193002_2 ((rd_T28 l0 x21_1).f0) ((rd_T28 l0 x21_1).f1) ((rd_T28 l0 x21_1).f2))) = some r := H
                    have A20 := Aside0.mk A200
                    clear A200
                    replace H := Option.bind_eq_some_iff.mp H
                    obtain ⟨t200, A210, H⟩ := H
                    replace H : (wealth_Path.l1 k2 a1 a2 x9_1 (wrap64 (x12_2 + t200)) l0 (l0.length : Int) x21_1 (wrap64 (0 + 1)) 1 2 4 1 2 4 t200 x193001_2 x193002_2 ((rd_T28 l0 x21_1).f0) ((rd_T28 l0 x21_1).f1) ((rd_T28 l0 x21_1).f2)) = some r := H
                    have A21 := Aside0.mk A210
                    clear A210
                    have H' := Aside0.mk H
                    clear H
                    have hnb22 := NB194_191.out
                    have hnc22 := NB191_194.out
                    have hnb23 := NB194_192.out
                    have hnc23 := NB192_194.out
                    have hcz24_0 : wr.cell? ⟨gb194, 0, none⟩ = some (.int .i64 ((rd_T28 l0 x21_1).f0)) := (blk_cell BK194.out 0).trans rfl
                    have hcz24_1 : wr.cell? ⟨gb194, 1, none⟩ = some (.int .i64 ((rd_T28 l0 x21_1).f1)) := (blk_cell BK194.out 1).trans rfl
                    have hcz24_2 : wr.cell? ⟨gb194, 2, none⟩ = some (.int .i64 ((rd_T28 l0 x21_1).f2)) := (blk_cell BK194.out 2).trans rfl
                    have hfz24_0 := blk_frozen BK194.out 0
                    have hfz24_1 := blk_frozen BK194.out 1
                    have hfz24_2 := blk_frozen BK194.out 2
                    go_wp2_with (first | ((with_reducible refine gate_callee (f := 13) rfl ?_); refine goesL_ (some 35) rfl rfl Try.func13 (by kernel_rfl) rfl #[.agg #[.int .i64 ((rd_T28 l0 x21_1).f0), .int .i64 ((rd_T28 l0 x21_1).f1), .int .i64 ((rd_T28 l0 x21_1).f2)], .int .i64 a1, .int .i64 1, .bool a2] rfl (by (try simp only [List.map_toArray, List.map_cons, List.map_nil]); first | done | rfl | (simp only [List.length_drop, List.length_take]; rfl)) ?_; (with_reducible refine (wealth_Factor.calls k2 ((rd_T28 l0 x21_1).f0) ((rd_T28 l0 x21_1).f1) ((rd_T28 l0 x21_1).f2) a1 1 a2 t198 t199 _ A20.out).mono ?_); rintro e w25 ⟨rfl, hb⟩; refine ⟨_, rfl, ?_⟩; have n0_ := Aside0.mk (Kd.R_below (by (with_reducible repeat (first | apply Kd.R_alloc | apply Kd.R_drewN | apply Kd.R_drew)); exact HO_9.out) hb); have n1_ := Aside0.mk (blk_below (g := gb191) (o := .cells #[.int .i64 1, .int .i64 2, .int .i64 4] 68 (0, 0)) (by (with_reducible repeat (first | refine blk_drewN ?_ _ | refine blk_drew ?_ | refine blk_alloc ?_ _)); exact BK191.out) hb); have n2_ := Aside0.mk (blk_below (g := gb192) (o := .cells #[.int .i64 x193000_2, .int .i64 x193001_2, .int .i64 x193002_2] 68 (0, 0)) (by (with_reducible repeat (first | refine blk_drewN ?_ _ | refine blk_drew ?_ | refine blk_alloc ?_ _)); exact BK192.out) hb); have n3_ := Aside0.mk (blk_below (g := gb194) (o := .cells #[.int .i64 ((rd_T28 l0 x21_1).f0), .int .i64 ((rd_T28 l0 x21_1).f1), .int .i64 ((rd_T28 l0 x21_1).f2)] 28 (0, 0)) (by (with_reducible repeat (first | refine blk_drewN ?_ _ | refine blk_drew ?_ | refine blk_alloc ?_ _)); exact BK194.out) hb); have n4_ := Aside0.mk (below_step (by repeat (first | (with_reducible first | exact HB.out | apply below_alloc | apply pw_below_drewN | apply below_drew1 | refine below_set ?_ GE191.out | refine below_set ?_ GE192.out | refine below_set ?_ GE194.out) | exact HB.out)) hb); clear HO_9; clear BK191; clear BK192; clear BK194; clear HB; have HO_9 := n0_; have BK191 := n1_; have BK192 := n2_; have BK194 := n3_; have HB := n4_; clear n0_ n1_ n2_ n3_ n4_; (try clear hb); (try clear hb2); (try clear hk); (try clear hi); have hnb26 := NB192_191.out; have hnc26 := NB191_192.out; have hcz27_0 : w25.cell? ⟨gb192, 0, none⟩ = some (.int .i64 x193000_2) := (blk_cell BK192.out 0).trans rfl; have hcz27_1 : w25.cell? ⟨gb192, 1, none⟩ = some (.int .i64 x193001_2) := (blk_cell BK192.out 1).trans rfl; have hcz27_2 : w25.cell? ⟨gb192, 2, none⟩ = some (.int .i64 x193002_2) := (blk_cell BK192.out 2).trans rfl; have hfz27_0 := blk_frozen BK192.out 0; have hfz27_1 := blk_frozen BK192.out 1; have hfz27_2 := blk_frozen BK192.out 2) | ((with_reducible refine gate_callee (f := 11) rfl ?_); refine goesL_ (some 44) rfl rfl Try.func11 (by kernel_rfl) rfl #[.int .i64 x193000_2, .int .i64 t198, .int .i64 t199] rfl (by (try simp only [List.map_toArray, List.map_cons, List.map_nil]); first | done | rfl | (simp only [List.length_drop, List.length_take]; rfl)) ?_; (with_reducible refine (wealth_Grow.calls k2 x193000_2 t198 t199 t200 _ A21.out).mono ?_); rintro e w28 ⟨rfl, hb⟩; refine ⟨_, rfl, ?_⟩; have n0_ := Aside0.mk (Kd.R_below (by (with_reducible repeat (first | apply Kd.R_alloc | apply Kd.R_drewN | apply Kd.R_drew)); exact HO_9.out) hb); have n1_ := Aside0.mk (blk_below (g := gb191) (o := .cells #[.int .i64 1, .int .i64 2, .int .i64 4] 68 (0, 0)) (by (with_reducible repeat (first | refine blk_drewN ?_ _ | refine blk_drew ?_ | refine blk_alloc ?_ _)); exact BK191.out) hb); have n2_ := Aside0.mk (blk_below (g := gb192) (o := .cells #[.int .i64 x193000_2, .int .i64 x193001_2, .int .i64 x193002_2] 68 (0, 0)) (by (with_reducible repeat (first | refine blk_drewN ?_ _ | refine blk_drew ?_ | refine blk_alloc ?_ _)); exact BK192.out) hb); have n3_ := Aside0.mk (blk_below (g := gb194) (o := .cells #[.int .i64 ((rd_T28 l0 x21_1).f0), .int .i64 ((rd_T28 l0 x21_1).f1), .int .i64 ((rd_T28 l0 x21_1).f2)] 28 (0, 0)) (by (with_reducible repeat (first | refine blk_drewN ?_ _ | refine blk_drew ?_ | refine blk_alloc ?_ _)); exact BK194.out) hb); have n4_ := Aside0.mk (below_step (by repeat (first | (with_reducible first | exact HB.out | apply below_alloc | apply pw_below_drewN | apply below_drew1 | refine below_set ?_ GE191.out | refine below_set ?_ GE192.out | refine below_set ?_ GE194.out) | exact HB.out)) hb); clear HO_9; clear BK191; clear BK192; clear BK194; clear HB; have HO_9 := n0_; have BK191 := n1_; have BK192 := n2_; have BK194 := n3_; have HB := n4_; clear n0_ n1_ n2_ n3_ n4_; (try clear hb); (try clear hb2); (try clear hk); (try clear hi); have hcz29_0 : w28.cell? ⟨gb192, 0, none⟩ = some (.int .i64 x193000_2) := (blk_cell BK192.out 0).trans rfl; have hcz29_1 : w28.cell? ⟨gb192, 1, none⟩ = some (.int .i64 x193001_2) := (blk_cell BK192.out 1).trans rfl; have hcz29_2 : w28.cell? ⟨gb192, 2, none⟩ = some (.int .i64 x193002_2) := (blk_cell BK192.out 2).trans rfl; have hfz29_0 := blk_frozen BK192.out 0; have hfz29_1 := blk_frozen BK192.out 1; have hfz29_2 := blk_frozen BK192.out 2))
                    go_roundg k2
                    case measure => have := HK1.out; have := HK2.out; omega
                    case rel => exact ⟨(wrap64 (x12_2 + t200)), (wrap64 (0 + 1)), (t200), (x193001_2), (x193002_2), (by first | rfl | (simp; done) | (simp [*]; done) | exact congrArg (Value.int _) (by unfold wrap64; omega)), (by first | rfl | (simp; done) | (simp [*]; done) | exact congrArg (Value.int _) (by unfold wrap64; omega)), H', ⟨by have := HK1.out; have := HK2.out; omega⟩, ⟨by (with_reducible repeat (first | apply Kd.R_alloc | apply Kd.R_drewN | apply Kd.R_drew)); exact Kd.R_mono (Kd.R_far (p := ⟨gb192, 0, none⟩) (Kd.R_types HO_9.out BK192.out (by decide)) (fun _ hk => hk.2) (.int .i64 t200)) (fun _ hk => trivial)⟩, ⟨by (with_reducible repeat (first | refine blk_drewN ?_ _ | refine blk_drew ?_ | refine blk_alloc ?_ _)); refine blk_far ?_ NB191_192.out _; (with_reducible repeat (first | refine blk_drewN ?_ _ | refine blk_drew ?_ | refine blk_alloc ?_ _)); exact BK191.out⟩, ⟨by (with_reducible repeat (first | refine blk_drewN ?_ _ | refine blk_drew ?_ | refine blk_alloc ?_ _)); refine blk_put (cs := #[.int .i64 x193000_2, .int .i64 x193001_2, .int .i64 x193002_2]) ?_ 0 _ rfl; (with_reducible repeat (first | refine blk_drewN ?_ _ | refine blk_drew ?_ | refine blk_alloc ?_ _)); exact BK192.out⟩, ⟨by (with_reducible repeat (first | refine blk_drewN ?_ _ | refine blk_drew ?_ | refine blk_alloc ?_ _)); refine blk_far ?_ NB194_192.out _; (with_reducible repeat (first | refine blk_drewN ?_ _ | refine blk_drew ?_ | refine blk_alloc ?_ _)); exact BK194.out⟩, ⟨by repeat (first | (with_reducible first | exact HB.out | apply below_alloc | apply pw_below_drewN | apply below_drew1 | refine below_set ?_ GE191.out | refine below_set ?_ GE192.out | refine below_set ?_ GE194.out) | exact HB.out)⟩⟩
                  · rw [if_neg c19] at H
                    clear c19
                    by_cases c30 : x26_2 = 1
                    · subst c30
                      rw [if_pos rfl] at H
                      replace H := Option.bind_eq_some_iff.mp H
                      obtain ⟨⟨t201, t202⟩, A310, H⟩ := H
                      replace H : ((wealth_Grow.f k2 x193001_2 t201 t202).bind fun t203 => (wealth_Path.l1 k2 a1 a2 x9_1 (wrap64 (x12_2 + t203)) l0 (l0.length : Int) x21_1 (wrap64 (1 + 1)) 1 2 4 1 2 4 x193000_2 t203 x193002_2 ((rd_T28 l0 x21_1).f0) ((rd_T28 l0 x21_1).f1) ((rd_T28 l0 x21_1).f2))) = some r := H
                      have A31 := Aside0.mk A310
                      clear A310
                      replace H := Option.bind_eq_some_iff.mp H
                      obtain ⟨t203, A320, H⟩ := H
                      replace H : (wealth_Path.l1 k2 a1 a2 x9_1 (wrap64 (x12_2 + t203)) l0 (l0.length : Int) x21_1 (wrap64 (1 + 1)) 1 2 4 1 2 4 x193000_2 t203 x193002_2 ((rd_T28 l0 x21_1).f0) ((rd_T28 l0 x21_1).f1) ((rd_T28 l0 x21_1).f2)) = some r := H
                      have A32 := Aside0.mk A320
                      clear A320
                      have H' := Aside0.mk H
                      clear H
                      have hnb33 := NB194_191.out
                      have hnc33 := NB191_194.out
                      have hnb34 := NB194_192.out
                      have hnc34 := NB192_194.out
                      have hcz35_0 : wr.cell? ⟨gb194, 0, none⟩ = some (.int .i64 ((rd_T28 l0 x21_1).f0)) := (blk_cell BK194.out 0).trans rfl
                      have hcz35_1 : wr.cell? ⟨gb194, 1, none⟩ = some (.int .i64 ((rd_T28 l0 x21_1).f1)) := (blk_cell BK194.out 1).trans rfl
                      have hcz35_2 : wr.cell? ⟨gb194, 2, none⟩ = some (.int .i64 ((rd_T28 l0 x21_1).f2)) := (blk_cell BK194.out 2).trans rfl
                      have hfz35_0 := blk_frozen BK194.out 0
                      have hfz35_1 := blk_frozen BK194.out 1
                      have hfz35_2 := blk_frozen BK194.out 2
                      go_wp2_with (first | ((with_reducible refine gate_callee (f := 13) rfl ?_); refine goesL_ (some 35) rfl rfl Try.func13 (by kernel_rfl) rfl #[.agg #[.int .i64 ((rd_T28 l0 x21_1).f0), .int .i64 ((rd_T28 l0 x21_1).f1), .int .i64 ((rd_T28 l0 x21_1).f2)], .int .i64 a1, .int .i64 2, .bool a2] rfl (by (try simp only [List.map_toArray, List.map_cons, List.map_nil]); first | done | rfl | (simp only [List.length_drop, List.length_take]; rfl)) ?_; (with_reducible refine (wealth_Factor.calls k2 ((rd_T28 l0 x21_1).f0) ((rd_T28 l0 x21_1).f1) ((rd_T28 l0 x21_1).f2) a1 2 a2 t201 t202 _ A31.out).mono ?_); rintro e w36 ⟨rfl, hb⟩; refine ⟨_, rfl, ?_⟩; have n0_ := Aside0.mk (Kd.R_below (by (with_reducible repeat (first | apply Kd.R_alloc | apply Kd.R_drewN | apply Kd.R_drew)); exact HO_9.out) hb); have n1_ := Aside0.mk (blk_below (g := gb191) (o := .cells #[.int .i64 1, .int .i64 2, .int .i64 4] 68 (0, 0)) (by (with_reducible repeat (first | refine blk_drewN ?_ _ | refine blk_drew ?_ | refine blk_alloc ?_ _)); exact BK191.out) hb); have n2_ := Aside0.mk (blk_below (g := gb192) (o := .cells #[.int .i64 x193000_2, .int .i64 x193001_2, .int .i64 x193002_2] 68 (0, 0)) (by (with_reducible repeat (first | refine blk_drewN ?_ _ | refine blk_drew ?_ | refine blk_alloc ?_ _)); exact BK192.out) hb); have n3_ := Aside0.mk (blk_below (g := gb194) (o := .cells #[.int .i64 ((rd_T28 l0 x21_1).f0), .int .i64 ((rd_T28 l0 x21_1).f1), .int .i64 ((rd_T28 l0 x21_1).f2)] 28 (0, 0)) (by (with_reducible repeat (first | refine blk_drewN ?_ _ | refine blk_drew ?_ | refine blk_alloc ?_ _)); exact BK194.out) hb); have n4_ := Aside0.mk (below_step (by repeat (first | (with_reducible first | exact HB.out | apply below_alloc | apply pw_below_drewN | apply below_drew1 | refine below_set ?_ GE191.out | refine below_set ?_ GE192.out | refine below_set ?_ GE194.out) | exact HB.out)) hb); clear HO_9; clear BK191; clear BK192; clear BK194; clear HB; have HO_9 := n0_; have BK191 := n1_; have BK192 := n2_; have BK194 := n3_; have HB := n4_; clear n0_ n1_ n2_ n3_ n4_; (try clear hb); (try clear hb2); (try clear hk); (try clear hi); have hnb37 := NB192_191.out; have hnc37 := NB191_192.out; have hcz38_0 : w36.cell? ⟨gb192, 0, none⟩ = some (.int .i64 x193000_2) := (blk_cell BK192.out 0).trans rfl; have hcz38_1 : w36.cell? ⟨gb192, 1, none⟩ = some (.int .i64 x193001_2) := (blk_cell BK192.out 1).trans rfl; have hcz38_2 : w36.cell? ⟨gb192, 2, none⟩ = some (.int .i64 x193002_2) := (blk_cell BK192.out 2).trans rfl; have hfz38_0 := blk_frozen BK192.out 0; have hfz38_1 := blk_frozen BK192.out 1; have hfz38_2 := blk_frozen BK192.out 2) | ((with_reducible refine gate_callee (f := 11) rfl ?_); refine goesL_ (some 44) rfl rfl Try.func11 (by kernel_rfl) rfl #[.int .i64 x193001_2, .int .i64 t201, .int .i64 t202] rfl (by (try simp only [List.map_toArray, List.map_cons, List.map_nil]); first | done | rfl | (simp only [List.length_drop, List.length_take]; rfl)) ?_; (with_reducible refine (wealth_Grow.calls k2 x193001_2 t201 t202 t203 _ A32.out).mono ?_); rintro e w39 ⟨rfl, hb⟩; refine ⟨_, rfl, ?_⟩; have n0_ := Aside0.mk (Kd.R_below (by (with_reducible repeat (first | apply Kd.R_alloc | apply Kd.R_drewN | apply Kd.R_drew)); exact HO_9.out) hb); have n1_ := Aside0.mk (blk_below (g := gb191) (o := .cells #[.int .i64 1, .int .i64 2, .int .i64 4] 68 (0, 0)) (by (with_reducible repeat (first | refine blk_drewN ?_ _ | refine blk_drew ?_ | refine blk_alloc ?_ _)); exact BK191.out) hb); have n2_ := Aside0.mk (blk_below (g := gb192) (o := .cells #[.int .i64 x193000_2, .int .i64 x193001_2, .int .i64 x193002_2] 68 (0, 0)) (by (with_reducible repeat (first | refine blk_drewN ?_ _ | refine blk_drew ?_ | refine blk_alloc ?_ _)); exact BK192.out) hb); have n3_ := Aside0.mk (blk_below (g := gb194) (o := .cells #[.int .i64 ((rd_T28 l0 x21_1).f0), .int .i64 ((rd_T28 l0 x21_1).f1), .int .i64 ((rd_T28 l0 x21_1).f2)] 28 (0, 0)) (by (with_reducible repeat (first | refine blk_drewN ?_ _ | refine blk_drew ?_ | refine blk_alloc ?_ _)); exact BK194.out) hb); have n4_ := Aside0.mk (below_step (by repeat (first | (with_reducible first | exact HB.out | apply below_alloc | apply pw_below_drewN | apply below_drew1 | refine below_set ?_ GE191.out | refine below_set ?_ GE192.out | refine below_set ?_ GE194.out) | exact HB.out)) hb); clear HO_9; clear BK191; clear BK192; clear BK194; clear HB; have HO_9 := n0_; have BK191 := n1_; have BK192 := n2_; have BK194 := n3_; have HB := n4_; clear n0_ n1_ n2_ n3_ n4_; (try clear hb); (try clear hb2); (try clear hk); (try clear hi); have hcz40_0 : w39.cell? ⟨gb192, 0, none⟩ = some (.int .i64 x193000_2) := (blk_cell BK192.out 0).trans rfl; have hcz40_1 : w39.cell? ⟨gb192, 1, none⟩ = some (.int .i64 x193001_2) := (blk_cell BK192.out 1).trans rfl; have hcz40_2 : w39.cell? ⟨gb192, 2, none⟩ = some (.int .i64 x193002_2) := (blk_cell BK192.out 2).trans rfl; have hfz40_0 := blk_frozen BK192.out 0; have hfz40_1 := blk_frozen BK192.out 1; have hfz40_2 := blk_frozen BK192.out 2))
                      go_roundg k2
                      case measure => have := HK1.out; have := HK2.out; omega
                      case rel => exact ⟨(wrap64 (x12_2 + t203)), (wrap64 (1 + 1)), (x193000_2), (t203), (x193002_2), (by first | rfl | (simp; done) | (simp [*]; done) | exact congrArg (Value.int _) (by unfold wrap64; omega)), (by first | rfl | (simp; done) | (simp [*]; done) | exact congrArg (Value.int _) (by unfold wrap64; omega)), H', ⟨by have := HK1.out; have := HK2.out; omega⟩, ⟨by (with_reducible repeat (first | apply Kd.R_alloc | apply Kd.R_drewN | apply Kd.R_drew)); exact Kd.R_mono (Kd.R_far (p := ⟨gb192, 1, none⟩) (Kd.R_types HO_9.out BK192.out (by decide)) (fun _ hk => hk.2) (.int .i64 t203)) (fun _ hk => trivial)⟩, ⟨by (with_reducible repeat (first | refine blk_drewN ?_ _ | refine blk_drew ?_ | refine blk_alloc ?_ _)); refine blk_far ?_ NB191_192.out _; (with_reducible repeat (first | refine blk_drewN ?_ _ | refine blk_drew ?_ | refine blk_alloc ?_ _)); exact BK191.out⟩, ⟨by (with_reducible repeat (first | refine blk_drewN ?_ _ | refine blk_drew ?_ | refine blk_alloc ?_ _)); refine blk_put (cs := #[.int .i64 x193000_2, .int .i64 x193001_2, .int .i64 x193002_2]) ?_ 1 _ rfl; (with_reducible repeat (first | refine blk_drewN ?_ _ | refine blk_drew ?_ | refine blk_alloc ?_ _)); exact BK192.out⟩, ⟨by (with_reducible repeat (first | refine blk_drewN ?_ _ | refine blk_drew ?_ | refine blk_alloc ?_ _)); refine blk_far ?_ NB194_192.out _; (with_reducible repeat (first | refine blk_drewN ?_ _ | refine blk_drew ?_ | refine blk_alloc ?_ _)); exact BK194.out⟩, ⟨by repeat (first | (with_reducible first | exact HB.out | apply below_alloc | apply pw_below_drewN | apply below_drew1 | refine below_set ?_ GE191.out | refine below_set ?_ GE192.out | refine below_set ?_ GE194.out) | exact HB.out)⟩⟩
                    · rw [if_neg c30] at H
                      clear c30
                      by_cases c41 : x26_2 = 2
                      · subst c41
                        rw [if_pos rfl] at H
                        replace H := Option.bind_eq_some_iff.mp H
                        obtain ⟨⟨t204, t205⟩, A420, H⟩ := H
                        replace H : ((wealth_Grow.f k2 x193002_2 t204 t205).bind fun t206 => (wealth_Path.l1 k2 a1 a2 x9_1 (wrap64 (x12_2 + t206)) l0 (l0.length : Int) x21_1 (wrap64 (2 + 1)) 1 2 4 1 2 4 x193000_2 x193001_2 t206 ((rd_T28 l0 x21_1).f0) ((rd_T28 l0 x21_1).f1) ((rd_T28 l0 x21_1).f2))) = some r := H
                        have A42 := Aside0.mk A420
                        clear A420
                        replace H := Option.bind_eq_some_iff.mp H
                        obtain ⟨t206, A430, H⟩ := H
                        replace H : (wealth_Path.l1 k2 a1 a2 x9_1 (wrap64 (x12_2 + t206)) l0 (l0.length : Int) x21_1 (wrap64 (2 + 1)) 1 2 4 1 2 4 x193000_2 x193001_2 t206 ((rd_T28 l0 x21_1).f0) ((rd_T28 l0 x21_1).f1) ((rd_T28 l0 x21_1).f2)) = some r := H
                        have A43 := Aside0.mk A430
                        clear A430
                        have H' := Aside0.mk H
                        clear H
                        have hnb44 := NB194_191.out
                        have hnc44 := NB191_194.out
                        have hnb45 := NB194_192.out
                        have hnc45 := NB192_194.out
                        have hcz46_0 : wr.cell? ⟨gb194, 0, none⟩ = some (.int .i64 ((rd_T28 l0 x21_1).f0)) := (blk_cell BK194.out 0).trans rfl
                        have hcz46_1 : wr.cell? ⟨gb194, 1, none⟩ = some (.int .i64 ((rd_T28 l0 x21_1).f1)) := (blk_cell BK194.out 1).trans rfl
                        have hcz46_2 : wr.cell? ⟨gb194, 2, none⟩ = some (.int .i64 ((rd_T28 l0 x21_1).f2)) := (blk_cell BK194.out 2).trans rfl
                        have hfz46_0 := blk_frozen BK194.out 0
                        have hfz46_1 := blk_frozen BK194.out 1
                        have hfz46_2 := blk_frozen BK194.out 2
                        go_wp2_with (first | ((with_reducible refine gate_callee (f := 13) rfl ?_); refine goesL_ (some 35) rfl rfl Try.func13 (by kernel_rfl) rfl #[.agg #[.int .i64 ((rd_T28 l0 x21_1).f0), .int .i64 ((rd_T28 l0 x21_1).f1), .int .i64 ((rd_T28 l0 x21_1).f2)], .int .i64 a1, .int .i64 4, .bool a2] rfl (by (try simp only [List.map_toArray, List.map_cons, List.map_nil]); first | done | rfl | (simp only [List.length_drop, List.length_take]; rfl)) ?_; (with_reducible refine (wealth_Factor.calls k2 ((rd_T28 l0 x21_1).f0) ((rd_T28 l0 x21_1).f1) ((rd_T28 l0 x21_1).f2) a1 4 a2 t204 t205 _ A42.out).mono ?_); rintro e w47 ⟨rfl, hb⟩; refine ⟨_, rfl, ?_⟩; have n0_ := Aside0.mk (Kd.R_below (by (with_reducible repeat (first | apply Kd.R_alloc | apply Kd.R_drewN | apply Kd.R_drew)); exact HO_9.out) hb); have n1_ := Aside0.mk (blk_below (g := gb191) (o := .cells #[.int .i64 1, .int .i64 2, .int .i64 4] 68 (0, 0)) (by (with_reducible repeat (first | refine blk_drewN ?_ _ | refine blk_drew ?_ | refine blk_alloc ?_ _)); exact BK191.out) hb); have n2_ := Aside0.mk (blk_below (g := gb192) (o := .cells #[.int .i64 x193000_2, .int .i64 x193001_2, .int .i64 x193002_2] 68 (0, 0)) (by (with_reducible repeat (first | refine blk_drewN ?_ _ | refine blk_drew ?_ | refine blk_alloc ?_ _)); exact BK192.out) hb); have n3_ := Aside0.mk (blk_below (g := gb194) (o := .cells #[.int .i64 ((rd_T28 l0 x21_1).f0), .int .i64 ((rd_T28 l0 x21_1).f1), .int .i64 ((rd_T28 l0 x21_1).f2)] 28 (0, 0)) (by (with_reducible repeat (first | refine blk_drewN ?_ _ | refine blk_drew ?_ | refine blk_alloc ?_ _)); exact BK194.out) hb); have n4_ := Aside0.mk (below_step (by repeat (first | (with_reducible first | exact HB.out | apply below_alloc | apply pw_below_drewN | apply below_drew1 | refine below_set ?_ GE191.out | refine below_set ?_ GE192.out | refine below_set ?_ GE194.out) | exact HB.out)) hb); clear HO_9; clear BK191; clear BK192; clear BK194; clear HB; have HO_9 := n0_; have BK191 := n1_; have BK192 := n2_; have BK194 := n3_; have HB := n4_; clear n0_ n1_ n2_ n3_ n4_; (try clear hb); (try clear hb2); (try clear hk); (try clear hi); have hnb48 := NB192_191.out; have hnc48 := NB191_192.out; have hcz49_0 : w47.cell? ⟨gb192, 0, none⟩ = some (.int .i64 x193000_2) := (blk_cell BK192.out 0).trans rfl; have hcz49_1 : w47.cell? ⟨gb192, 1, none⟩ = some (.int .i64 x193001_2) := (blk_cell BK192.out 1).trans rfl; have hcz49_2 : w47.cell? ⟨gb192, 2, none⟩ = some (.int .i64 x193002_2) := (blk_cell BK192.out 2).trans rfl; have hfz49_0 := blk_frozen BK192.out 0; have hfz49_1 := blk_frozen BK192.out 1; have hfz49_2 := blk_frozen BK192.out 2) | ((with_reducible refine gate_callee (f := 11) rfl ?_); refine goesL_ (some 44) rfl rfl Try.func11 (by kernel_rfl) rfl #[.int .i64 x193002_2, .int .i64 t204, .int .i64 t205] rfl (by (try simp only [List.map_toArray, List.map_cons, List.map_nil]); first | done | rfl | (simp only [List.length_drop, List.length_take]; rfl)) ?_; (with_reducible refine (wealth_Grow.calls k2 x193002_2 t204 t205 t206 _ A43.out).mono ?_); rintro e w50 ⟨rfl, hb⟩; refine ⟨_, rfl, ?_⟩; have n0_ := Aside0.mk (Kd.R_below (by (with_reducible repeat (first | apply Kd.R_alloc | apply Kd.R_drewN | apply Kd.R_drew)); exact HO_9.out) hb); have n1_ := Aside0.mk (blk_below (g := gb191) (o := .cells #[.int .i64 1, .int .i64 2, .int .i64 4] 68 (0, 0)) (by (with_reducible repeat (first | refine blk_drewN ?_ _ | refine blk_drew ?_ | refine blk_alloc ?_ _)); exact BK191.out) hb); have n2_ := Aside0.mk (blk_below (g := gb192) (o := .cells #[.int .i64 x193000_2, .int .i64 x193001_2, .int .i64 x193002_2] 68 (0, 0)) (by (with_reducible repeat (first | refine blk_drewN ?_ _ | refine blk_drew ?_ | refine blk_alloc ?_ _)); exact BK192.out) hb); have n3_ := Aside0.mk (blk_below (g := gb194) (o := .cells #[.int .i64 ((rd_T28 l0 x21_1).f0), .int .i64 ((rd_T28 l0 x21_1).f1), .int .i64 ((rd_T28 l0 x21_1).f2)] 28 (0, 0)) (by (with_reducible repeat (first | refine blk_drewN ?_ _ | refine blk_drew ?_ | refine blk_alloc ?_ _)); exact BK194.out) hb); have n4_ := Aside0.mk (below_step (by repeat (first | (with_reducible first | exact HB.out | apply below_alloc | apply pw_below_drewN | apply below_drew1 | refine below_set ?_ GE191.out | refine below_set ?_ GE192.out | refine below_set ?_ GE194.out) | exact HB.out)) hb); clear HO_9; clear BK191; clear BK192; clear BK194; clear HB; have HO_9 := n0_; have BK191 := n1_; have BK192 := n2_; have BK194 := n3_; have HB := n4_; clear n0_ n1_ n2_ n3_ n4_; (try clear hb); (try clear hb2); (try clear hk); (try clear hi); have hcz51_0 : w50.cell? ⟨gb192, 0, none⟩ = some (.int .i64 x193000_2) := (blk_cell BK192.out 0).trans rfl; have hcz51_1 : w50.cell? ⟨gb192, 1, none⟩ = some (.int .i64 x193001_2) := (blk_cell BK192.out 1).trans rfl; have hcz51_2 : w50.cell? ⟨gb192, 2, none⟩ = some (.int .i64 x193002_2) := (blk_cell BK192.out 2).trans rfl; have hfz51_0 := blk_frozen BK192.out 0; have hfz51_1 := blk_frozen BK192.out 1; have hfz51_2 := blk_frozen BK192.out 2))
                        go_roundg k2
                        case measure => have := HK1.out; have := HK2.out; omega
                        case rel => exact ⟨(wrap64 (x12_2 + t206)), (wrap64 (2 + 1)), (x193000_2), (x193001_2), (t206), (by first | rfl | (simp; done) | (simp [*]; done) | exact congrArg (Value.int _) (by unfold wrap64; omega)), (by first | rfl | (simp; done) | (simp [*]; done) | exact congrArg (Value.int _) (by unfold wrap64; omega)), H', ⟨by have := HK1.out; have := HK2.out; omega⟩, ⟨by (with_reducible repeat (first | apply Kd.R_alloc | apply Kd.R_drewN | apply Kd.R_drew)); exact Kd.R_mono (Kd.R_far (p := ⟨gb192, 2, none⟩) (Kd.R_types HO_9.out BK192.out (by decide)) (fun _ hk => hk.2) (.int .i64 t206)) (fun _ hk => trivial)⟩, ⟨by (with_reducible repeat (first | refine blk_drewN ?_ _ | refine blk_drew ?_ | refine blk_alloc ?_ _)); refine blk_far ?_ NB191_192.out _; (with_reducible repeat (first | refine blk_drewN ?_ _ | refine blk_drew ?_ | refine blk_alloc ?_ _)); exact BK191.out⟩, ⟨by (with_reducible repeat (first | refine blk_drewN ?_ _ | refine blk_drew ?_ | refine blk_alloc ?_ _)); refine blk_put (cs := #[.int .i64 x193000_2, .int .i64 x193001_2, .int .i64 x193002_2]) ?_ 2 _ rfl; (with_reducible repeat (first | refine blk_drewN ?_ _ | refine blk_drew ?_ | refine blk_alloc ?_ _)); exact BK192.out⟩, ⟨by (with_reducible repeat (first | refine blk_drewN ?_ _ | refine blk_drew ?_ | refine blk_alloc ?_ _)); refine blk_far ?_ NB194_192.out _; (with_reducible repeat (first | refine blk_drewN ?_ _ | refine blk_drew ?_ | refine blk_alloc ?_ _)); exact BK194.out⟩, ⟨by repeat (first | (with_reducible first | exact HB.out | apply below_alloc | apply pw_below_drewN | apply below_drew1 | refine below_set ?_ GE191.out | refine below_set ?_ GE192.out | refine below_set ?_ GE194.out) | exact HB.out)⟩⟩
                      · rw [if_neg c41] at H
                        exact absurd H (by simp)
                · rw [if_neg c18] at H
                  have c18b0 : decide (x26_2 < 3) = false := decide_eq_false c18
                  clear c18
                  by_cases c52 : x9_1.length < 17592186044416
                  · rw [if_pos c52] at H
                    have LMc52 := Aside0.mk c52
                    clear c52
                    obtain ⟨y195, hy195⟩ : ∃ y_ : List Int, y_ = (x9_1 ++ [wrap64 (Int.tdiv x12_2 3)]) := ⟨_, rfl⟩
                    replace H : (wealth_Path.l0 k2 a1 a2 y195 l0 (l0.length : Int) (wrap64 (x21_1 + 1)) 1 2 4 x193000_2 x193001_2 x193002_2) = some r := by first | (rw [hy195]; with_reducible exact H) | (have H2_ := (Option.bind_some _ _).symm.trans H; rw [hy195]; with_reducible exact H2_) | (have H2_ := (Option.bind_some _ _).symm.trans H; with_reducible exact H2_) | with_reducible exact H | (rw [hy195]; exact H) | exact H
                    have Ny195 := Aside0.mk hy195
                    clear hy195
                    have H' := Aside0.mk H
                    clear H
                    go_wp2_with (first | ((with_reducible refine gate_builtin (b := .append) (xs := #[.tmp 52, .tmp 55]) rfl ?_); at_builtin; refine Kd.R_append (Kd.int .i64) (w0 := w) w.heap.size rfl (.tmp 52) (.tmp 55) 41 3 (.int .i64 0) 8 rfl Try.underlying41 info3 rfl (by decide) (by omega) u9 x9_1 (wrap64 (Int.tdiv x12_2 3)) [.int .i64 (wrap64 (Int.tdiv x12_2 3))] (fun _ => True) (fun _ => False) rfl rfl ?aP (fun _ hk => hk.elim) ?aF ?aO ?aB ?aS ?aL ?_; (case aP => exact rfl); (case aB => exact (by repeat (first | (with_reducible first | exact HB.out | apply below_alloc | apply pw_below_drewN | apply below_drew1 | refine below_set ?_ GE191.out | refine below_set ?_ GE192.out | refine below_set ?_ GE194.out) | exact HB.out))); (case aF => exact (fun _ _ => trivial)); (case aO => exact (by (with_reducible repeat (first | apply Kd.R_alloc | apply Kd.R_drewN | apply Kd.R_drew)); exact HO_9.out)); (case aS => exact (below_size (by repeat (first | (with_reducible first | exact HB.out | apply below_alloc | apply pw_below_drewN | apply below_drew1 | refine below_set ?_ GE191.out | refine below_set ?_ GE192.out | refine below_set ?_ GE194.out) | exact HB.out)))); (case aL => have := LMc52.out; omega); intro v196 w53 ho hb hg hat; rw [← Ny195.out] at ho; have n0_ := Aside0.mk (blk_grown (g := gb191) (o := .cells #[.int .i64 1, .int .i64 2, .int .i64 4] 68 (0, 0)) (by (with_reducible repeat (first | refine blk_drewN ?_ _ | refine blk_drew ?_ | refine blk_alloc ?_ _)); exact BK191.out) hg (Kd.R_ne HO_9.out BK191.out (by decide))); have n1_ := Aside0.mk (blk_grown (g := gb192) (o := .cells #[.int .i64 x193000_2, .int .i64 x193001_2, .int .i64 x193002_2] 68 (0, 0)) (by (with_reducible repeat (first | refine blk_drewN ?_ _ | refine blk_drew ?_ | refine blk_alloc ?_ _)); exact BK192.out) hg (Kd.R_ne HO_9.out BK192.out (by decide))); have n2_ := Aside0.mk (blk_grown (g := gb194) (o := .cells #[.int .i64 ((rd_T28 l0 x21_1).f0), .int .i64 ((rd_T28 l0 x21_1).f1), .int .i64 ((rd_T28 l0 x21_1).f2)] 28 (0, 0)) (by (with_reducible repeat (first | refine blk_drewN ?_ _ | refine blk_drew ?_ | refine blk_alloc ?_ _)); exact BK194.out) hg (Kd.R_ne HO_9.out BK194.out (by decide))); have n3_ := Aside0.mk (hb); have n4_ := Aside0.mk (ho); clear BK191; clear BK192; clear BK194; clear HB; clear HO_9; have BK191 := n0_; have BK192 := n1_; have BK194 := n2_; have HB := n3_; have HO197 := n4_; clear n0_ n1_ n2_ n3_ n4_; clear ho hb hg hat))
                    go_roundg k2
                    case measure => have := HK1.out; have := HK2.out; omega
                    case rel => exact ⟨(y195), (wrap64 (x21_1 + 1)), (x193000_2), (x193001_2), (x193002_2), (by first | rfl | (simp; done) | (simp [*]; done) | exact congrArg (Value.int _) (by unfold wrap64; omega)), H', ⟨by have := HK1.out; have := HK2.out; omega⟩, ⟨by (with_reducible repeat (first | apply Kd.R_alloc | apply Kd.R_drewN | apply Kd.R_drew)); exact HO197.out⟩, ⟨by (with_reducible repeat (first | refine blk_drewN ?_ _ | refine blk_drew ?_ | refine blk_alloc ?_ _)); exact BK191.out⟩, ⟨by (with_reducible repeat (first | refine blk_drewN ?_ _ | refine blk_drew ?_ | refine blk_alloc ?_ _)); exact BK192.out⟩, ⟨by repeat (first | (with_reducible first | exact HB.out | apply below_alloc | apply pw_below_drewN | apply below_drew1 | refine below_set ?_ GE191.out | refine below_set ?_ GE192.out | refine below_set ?_ GE194.out) | exact HB.out)⟩⟩
                  · rw [if_neg c52] at H
                    exact absurd H (by simp)
          · rw [if_neg c11] at H
            exact absurd H (by simp)
        · rw [if_neg c10] at H
          exact absurd H (by simp)
      · rw [if_neg c9] at H
        have c9b0 : decide (x21_1 < (l0.length : Int)) = false := decide_eq_false c9
        clear c9
        obtain rfl := Option.some.inj H
        go_wp2
        go_ret
        exact ⟨_, by first | rfl | (simp [errW_none, errW_some] <;> rfl) | (simp [*, errW_none, errW_some] <;> rfl), by (with_reducible repeat (first | apply Kd.R_alloc | apply Kd.R_drewN | apply Kd.R_drew)); exact HO_9.out, by repeat (first | (with_reducible first | exact HB.out | apply below_alloc | apply pw_below_drewN | apply below_drew1 | refine below_set ?_ GE191.out | refine below_set ?_ GE192.out) | exact HB.out)⟩

end Go.Proofs.Ytafcnpfhihnmgaa.PA
