-- Written by a program of this seat's session (wip/tools/ownprint.py, over the kit's printer) out of the translation: functions and their contracts.
import Derived.Test.YtafcnpfhihnmgaaPA0
import Derived.Test.YtafcnpfhihnmgaaPA1
namespace Go.Proofs.Ytafcnpfhihnmgaa.PA
open Go.RowKit Go.Proofs.YtafcnpfhihnmgaaW.PrintWords Go.Proofs.YtafcnpfhihnmgaaW.PrintLast Go.Proofs.YtafcnpfhihnmgaaW.PrintMore
attribute [local go_sem] max2_int min2_int max_two min_two max_three min_three max_four min_four   -- for this text's walks alone
set_option linter.unusedVariables false
set_option linter.unusedSimpArgs false

/-! ### wealth_Grow: function 11 -/
def wealth_Grow.j0 : Nat → Int → Int → Int → Bool → Option (Int)
  | 0, _, _, _, _ => none
  | k + 1, x0, x1, x2, x28 => if x28 = true then (some 0) else ((bits_Mul64.f (IntKind.u64.wrap (x0)) (IntKind.u64.wrap (x1))).bind fun bt103 => (if bt103.1 ≥ (IntKind.u64.wrap (x2)) then (some 2305843009213693952) else ((bits_Div64.f k bt103.1 bt103.2 (IntKind.u64.wrap (x2))).bind fun bt105 => (some (wrap64 (mn bt105.1 2305843009213693952))))))
def wealth_Grow.f (k : Nat) (a0 : Int) (a1 : Int) (a2 : Int) : Option (Int) := if a0 < 0 then (wealth_Grow.j0 k a0 a1 a2 true) else (if a0 > 2305843009213693952 then (wealth_Grow.j0 k a0 a1 a2 true) else (if a2 < 1 then (wealth_Grow.j0 k a0 a1 a2 true) else (if a2 > 4611686018427387904 then (wealth_Grow.j0 k a0 a1 a2 true) else (wealth_Grow.j0 k a0 a1 a2 (decide (a1 < 0))))))
theorem wealth_Grow.mono_l : ∀ k, (∀ y0 y1 y2 y3, LeO (wealth_Grow.j0 k y0 y1 y2 y3) (wealth_Grow.j0 (k + 1) y0 y1 y2 y3))
  | 0 => fun _ _ _ _ r h => by simp [wealth_Grow.j0] at h
  | k + 1 => by
    have ih0 := wealth_Grow.mono_l k
    · intro y0 y1 y2 y3
      unfold wealth_Grow.j0
      repeat' first
      | (with_reducible exact ih0 _ _ _ _)
      | (with_reducible exact bits_Div64.mono _ _ _ _)
      | (with_reducible exact LeO.refl _)
      | (with_reducible exact LeO.none _)
      | (with_reducible refine LeO.ite ?_ ?_)
      | (with_reducible refine LeO.bind ?_ (fun _ => ?_))
      | exact ih0 _ _ _ _
      | exact bits_Div64.mono _ _ _ _
      | exact LeO.none _
      | refine LeO.ite ?_ ?_
      | refine LeO.bind ?_ (fun _ => ?_)
theorem wealth_Grow.mono : ∀ a0 a1 a2 k, LeO (wealth_Grow.f k a0 a1 a2) (wealth_Grow.f (k + 1) a0 a1 a2) := by
  intro a0 a1 a2 k
  have ih0 := wealth_Grow.mono_l k
  unfold wealth_Grow.f
  repeat' first
      | (with_reducible exact ih0 _ _ _ _)
      | (with_reducible exact bits_Div64.mono _ _ _ _)
      | (with_reducible exact LeO.refl _)
      | (with_reducible exact LeO.none _)
      | (with_reducible refine LeO.ite ?_ ?_)
      | (with_reducible refine LeO.bind ?_ (fun _ => ?_))
      | exact ih0 _ _ _ _
      | exact bits_Div64.mono _ _ _ _
      | exact LeO.none _
      | refine LeO.ite ?_ ?_
      | refine LeO.bind ?_ (fun _ => ?_)
set_option maxHeartbeats 8000000 in
set_option maxRecDepth 100000 in
theorem wealth_Grow.calls (k : Nat) (a0 : Int) (a1 : Int) (a2 : Int) (r : Int) (w : World) (h : wealth_Grow.f k a0 a1 a2 = some r) :
    Calls Try.prog 11 #[.int .i64 a0, .int .i64 a1, .int .i64 a2] w fun e w' => e = .returned (.int .i64 r) ∧ Below w.heap.size w w' := by
  have HB := Aside0.mk (Below.refl w.heap.size w)
  have H : (if a0 < 0 then (wealth_Grow.j0 k a0 a1 a2 true) else (if a0 > 2305843009213693952 then (wealth_Grow.j0 k a0 a1 a2 true) else (if a2 < 1 then (wealth_Grow.j0 k a0 a1 a2 true) else (if a2 > 4611686018427387904 then (wealth_Grow.j0 k a0 a1 a2 true) else (wealth_Grow.j0 k a0 a1 a2 (decide (a1 < 0))))))) = some r := h
  clear h
  have HC4 := Aside0.mk H
  clear H
  go_enter Try.func11, Try.ntmps11
  go_upto_region 1 with (fail)
  go_cut [28] (fun v28 wc => ∃ (kq : Nat) (x28_3 : Bool), v28 = .bool x28_3 ∧ Aside0 (wealth_Grow.j0 kq a0 a1 a2 x28_3 = some r) ∧ Aside0 (kq ≤ k) ∧ Aside0 (Below w.heap.size w wc))
  case first =>
    have H := HC4.out
    clear HC4
    by_cases c5 : a0 < 0
    · rw [if_pos c5] at H
      have c5b0 : decide (a0 < 0) = true := decide_eq_true c5
      clear c5
      (first | rw [c5b0] | (simp only [i64_w, i32_w]; rw [c5b0]) | skip)
      have H' := Aside0.mk H
      clear H
      go_wp2
      go_meet
      case rel => exact ⟨_, (true), (by first | rfl | (simp; done) | (simp [*]; done) | exact congrArg (Value.int _) (by unfold wrap64; omega)), H', ⟨by first | omega | exact Nat.le_refl _⟩, ⟨by repeat (first | (with_reducible first | exact HB.out | apply below_alloc | apply pw_below_drewN | apply below_drew1) | exact HB.out)⟩⟩
    · rw [if_neg c5] at H
      have c5b0 : decide (a0 < 0) = false := decide_eq_false c5
      clear c5
      (first | rw [c5b0] | (simp only [i64_w, i32_w]; rw [c5b0]) | skip)
      by_cases c6 : a0 > 2305843009213693952
      · rw [if_pos c6] at H
        have c6b0 : decide (2305843009213693952 < a0) = true := decide_eq_true c6
        clear c6
        have H' := Aside0.mk H
        clear H
        go_wp2
        go_meet
        case rel => exact ⟨_, (true), (by first | rfl | (simp; done) | (simp [*]; done) | exact congrArg (Value.int _) (by unfold wrap64; omega)), H', ⟨by first | omega | exact Nat.le_refl _⟩, ⟨by repeat (first | (with_reducible first | exact HB.out | apply below_alloc | apply pw_below_drewN | apply below_drew1) | exact HB.out)⟩⟩
      · rw [if_neg c6] at H
        have c6b0 : decide (2305843009213693952 < a0) = false := decide_eq_false c6
        clear c6
        by_cases c7 : a2 < 1
        · rw [if_pos c7] at H
          have c7b0 : decide (a2 < 1) = true := decide_eq_true c7
          clear c7
          have H' := Aside0.mk H
          clear H
          go_wp2
          go_meet
          case rel => exact ⟨_, (true), (by first | rfl | (simp; done) | (simp [*]; done) | exact congrArg (Value.int _) (by unfold wrap64; omega)), H', ⟨by first | omega | exact Nat.le_refl _⟩, ⟨by repeat (first | (with_reducible first | exact HB.out | apply below_alloc | apply pw_below_drewN | apply below_drew1) | exact HB.out)⟩⟩
        · rw [if_neg c7] at H
          have c7b0 : decide (a2 < 1) = false := decide_eq_false c7
          clear c7
          by_cases c8 : a2 > 4611686018427387904
          · rw [if_pos c8] at H
            have c8b0 : decide (4611686018427387904 < a2) = true := decide_eq_true c8
            clear c8
            have H' := Aside0.mk H
            clear H
            go_wp2
            go_meet
            case rel => exact ⟨_, (true), (by first | rfl | (simp; done) | (simp [*]; done) | exact congrArg (Value.int _) (by unfold wrap64; omega)), H', ⟨by first | omega | exact Nat.le_refl _⟩, ⟨by repeat (first | (with_reducible first | exact HB.out | apply below_alloc | apply pw_below_drewN | apply below_drew1) | exact HB.out)⟩⟩
          · rw [if_neg c8] at H
            have c8b0 : decide (4611686018427387904 < a2) = false := decide_eq_false c8
            clear c8
            have H' := Aside0.mk H
            clear H
            go_wp2
            go_meet
            case rel => exact ⟨_, (decide (a1 < 0)), (by first | rfl | (simp; done) | (simp [*]; done) | exact congrArg (Value.int _) (by unfold wrap64; omega)), H', ⟨by first | omega | exact Nat.le_refl _⟩, ⟨by repeat (first | (with_reducible first | exact HB.out | apply below_alloc | apply pw_below_drewN | apply below_drew1) | exact HB.out)⟩⟩
  case rest =>
    clear HC4
    try clear c1
    try clear p2
    try clear c5
    try clear c5b0
    try clear c6
    try clear c6b0
    try clear p6
    try clear c7
    try clear c7b0
    try clear c8
    try clear c8b0
    obtain ⟨kq, x28_3, rfl, HA, HJ3, HB⟩ := hcut
    cases kq with
    | zero => exact absurd HA.out (by simp [wealth_Grow.j0])
    | succ kj3 =>
      have H := HA.out
      clear HA
      simp only [wealth_Grow.j0] at H
      by_cases c9 : x28_3 = true
      · subst c9
        have H1 : (some 0) = some r := by rw [if_pos rfl] at H; exact H
        clear H
        have H := H1
        clear H1
        obtain rfl := Option.some.inj H
        go_wp2
        go_ret
        exact ⟨by first | rfl | (simp [errW_none, errW_some] <;> rfl) | (simp [*, errW_none, errW_some] <;> rfl), by repeat (first | (with_reducible first | exact HB.out | apply below_alloc | apply pw_below_drewN | apply below_drew1) | exact HB.out)⟩
      · replace c9 := Bool.eq_false_iff.mpr c9
        subst c9
        have H1 : ((bits_Mul64.f (IntKind.u64.wrap (a0)) (IntKind.u64.wrap (a1))).bind fun bt103 => (if bt103.1 ≥ (IntKind.u64.wrap (a2)) then (some 2305843009213693952) else ((bits_Div64.f kj3 bt103.1 bt103.2 (IntKind.u64.wrap (a2))).bind fun bt105 => (some (wrap64 (mn bt105.1 2305843009213693952)))))) = some r := by rw [if_neg (show ¬ (false = true) by decide)] at H; exact H
        clear H
        have H := H1
        clear H1
        replace H := Option.bind_eq_some_iff.mp H
        obtain ⟨⟨t103, t104⟩, A100, H⟩ := H
        replace H : (if t103 ≥ (IntKind.u64.wrap (a2)) then (some 2305843009213693952) else ((bits_Div64.f kj3 t103 t104 (IntKind.u64.wrap (a2))).bind fun bt105 => (some (wrap64 (mn bt105.1 2305843009213693952))))) = some r := H
        have A10 := Aside0.mk A100
        clear A100
        by_cases c11 : t103 ≥ (IntKind.u64.wrap (a2))
        · rw [if_pos c11] at H
          have c11b0 : decide ((IntKind.u64.wrap (a2)) ≤ t103) = true := decide_eq_true c11
          clear c11
          obtain rfl := Option.some.inj H
          go_wp2_with (first | ((with_reducible refine gate_callee (f := 26) rfl ?_); refine goesL_ (some 34) rfl rfl Try.func26 (by kernel_rfl) rfl #[.int .u64 (IntKind.u64.wrap (a0)), .int .u64 (IntKind.u64.wrap (a1))] rfl (by (try simp only [List.map_toArray, List.map_cons, List.map_nil]); first | done | rfl | (simp only [List.length_drop, List.length_take]; rfl)) ?_; (with_reducible refine (bits_Mul64.calls (IntKind.u64.wrap (a0)) (IntKind.u64.wrap (a1)) t103 t104 _ A10.out).mono ?_); rintro e w' ⟨rfl, ⟨nd, rfl⟩⟩; refine ⟨_, rfl, ?_⟩))
          go_ret
          exact ⟨by first | rfl | (simp [errW_none, errW_some] <;> rfl) | (simp [*, errW_none, errW_some] <;> rfl), by repeat (first | (with_reducible first | exact HB.out | apply below_alloc | apply pw_below_drewN | apply below_drew1) | exact HB.out)⟩
        · rw [if_neg c11] at H
          have c11b0 : decide ((IntKind.u64.wrap (a2)) ≤ t103) = false := decide_eq_false c11
          clear c11
          replace H := Option.bind_eq_some_iff.mp H
          obtain ⟨⟨t105, t106⟩, A120, H⟩ := H
          replace H : (some (wrap64 (mn t105 2305843009213693952))) = some r := H
          have A12 := Aside0.mk A120
          clear A120
          obtain ⟨ji13, hji13⟩ : ∃ j_ : Int, (mn t105 2305843009213693952) = j_ := ⟨_, rfl⟩
          replace H : (some (wrap64 (ji13))) = some r := by first | (rw [hji13] at H; exact H) | (simp only [hji13] at H ⊢; exact H)
          (try rw [hji13] at A10)
          (try rw [hji13] at A12)
          (try (have hji13h : ji13 ≤ 2305843009213693952 := by (rw [← hji13]; unfold mn; (repeat' split) <;> omega)))
          (try (have hji13g : ji13 ≤ 64 := by omega))
          have hji13_ : (if 2305843009213693952 < t105 then 2305843009213693952 else t105) = ji13 := hji13
          obtain rfl := Option.some.inj H
          go_wp2_with (first | ((with_reducible refine gate_callee (f := 26) rfl ?_); refine goesL_ (some 34) rfl rfl Try.func26 (by kernel_rfl) rfl #[.int .u64 (IntKind.u64.wrap (a0)), .int .u64 (IntKind.u64.wrap (a1))] rfl (by (try simp only [List.map_toArray, List.map_cons, List.map_nil]); first | done | rfl | (simp only [List.length_drop, List.length_take]; rfl)) ?_; (with_reducible refine (bits_Mul64.calls (IntKind.u64.wrap (a0)) (IntKind.u64.wrap (a1)) t103 t104 _ A10.out).mono ?_); rintro e w' ⟨rfl, ⟨nd, rfl⟩⟩; refine ⟨_, rfl, ?_⟩) | ((with_reducible refine gate_callee (f := 27) rfl ?_); refine goesL_ (some 46) rfl rfl Try.func27 (by kernel_rfl) rfl #[.int .u64 t103, .int .u64 t104, .int .u64 (IntKind.u64.wrap (a2))] rfl (by (try simp only [List.map_toArray, List.map_cons, List.map_nil]); first | done | rfl | (simp only [List.length_drop, List.length_take]; rfl)) ?_; (with_reducible refine (bits_Div64.calls kj3 t103 t104 (IntKind.u64.wrap (a2)) t105 t106 _ A12.out).mono ?_); rintro e w' ⟨rfl, ⟨nd, rfl⟩⟩; refine ⟨_, rfl, ?_⟩))
          go_ret
          exact ⟨by first | rfl | (simp [errW_none, errW_some] <;> rfl) | (simp only [← hji13]; first | rfl | (simp [errW_none, errW_some] <;> rfl)) | (simp [*, errW_none, errW_some] <;> rfl), by repeat (first | (with_reducible first | exact HB.out | apply below_alloc | apply pw_below_drewN | apply below_drew1) | exact HB.out)⟩

/-! ### score_Valid: function 28 -/
def score_Valid.f (a0_0 : Int) (a0_1 : Int) (a0_2 : Int) : Option (Bool) := if 1 ≤ a0_1 then (if a0_1 ≤ a0_2 then (if a0_2 ≤ 562949953421312 then (if (wrap64 (a0_1 - a0_2)) ≤ a0_0 then (some (decide (a0_0 ≤ (wrap64 (a0_2 - a0_1))))) else (some false)) else (some false)) else (some false)) else (some false)
set_option maxHeartbeats 8000000 in
set_option maxRecDepth 100000 in
theorem score_Valid.calls (a0_0 : Int) (a0_1 : Int) (a0_2 : Int) (r : Bool) (w : World) (h : score_Valid.f a0_0 a0_1 a0_2 = some r) :
    Calls Try.prog 28 #[.agg #[.int .i64 a0_0, .int .i64 a0_1, .int .i64 a0_2]] w fun e w' => e = .returned (.bool r) ∧ Below w.heap.size w w' := by
  have hu28 := Try.underlying28
  have HB := Aside0.mk (Below.refl w.heap.size w)
  have H : (if 1 ≤ a0_1 then (if a0_1 ≤ a0_2 then (if a0_2 ≤ 562949953421312 then (if (wrap64 (a0_1 - a0_2)) ≤ a0_0 then (some (decide (a0_0 ≤ (wrap64 (a0_2 - a0_1))))) else (some false)) else (some false)) else (some false)) else (some false)) = some r := h
  clear h
  by_cases c2 : 1 ≤ a0_1
  · rw [if_pos c2] at H
    have c2b0 : decide (1 ≤ a0_1) = true := decide_eq_true c2
    clear c2
    by_cases c3 : a0_1 ≤ a0_2
    · rw [if_pos c3] at H
      have c3b0 : decide (a0_1 ≤ a0_2) = true := decide_eq_true c3
      clear c3
      by_cases c4 : a0_2 ≤ 562949953421312
      · rw [if_pos c4] at H
        have c4b0 : decide (a0_2 ≤ 562949953421312) = true := decide_eq_true c4
        clear c4
        by_cases c5 : (wrap64 (a0_1 - a0_2)) ≤ a0_0
        · rw [if_pos c5] at H
          have c5b0 : decide ((wrap64 (a0_1 - a0_2)) ≤ a0_0) = true := decide_eq_true c5
          clear c5
          obtain rfl := Option.some.inj H
          go_enter Try.func28, Try.ntmps28
          go_wp2_with (first | ((with_reducible refine gate_dst (N := 1) rfl ?_); refine box_event ?hg (N := 1) ?hd (cs := #[.int .i64 a0_0, .int .i64 a0_1, .int .i64 a0_2]) (t := 28) ?hr ?_; (case hd => rfl); (case hg => rfl); (case hr => first | (go_simp; done) | (go_simp; rfl)); intro gb107 hg w6 hbox hb; have n0_ := Aside0.mk (below_step (by repeat (first | (with_reducible first | exact HB.out | apply below_alloc | apply pw_below_drewN | apply below_drew1) | exact HB.out)) hb); have n1_ := Aside0.mk (hbox); have n2_ := Aside0.mk ((by rw [hg]; exact (below_size (by repeat (first | (with_reducible first | exact HB.out | apply below_alloc | apply pw_below_drewN | apply below_drew1) | exact HB.out))) : w.heap.size ≤ gb107)); have n3_ := Aside0.mk ((by rw [hg]; exact (below_size (by repeat (first | (with_reducible first | exact HB.out | apply below_alloc | apply pw_below_drewN | apply below_drew1) | exact HB.out))) : w.heap.size ≤ gb107)); clear HB; have HB := n0_; have BK107 := n1_; have GW107 := n2_; have GE107 := n3_; clear n0_ n1_ n2_ n3_; clear hb hbox hg; have hcz7_0 : w6.cell? ⟨gb107, 0, none⟩ = some (.int .i64 a0_0) := (blk_cell BK107.out 0).trans rfl; have hcz7_1 : w6.cell? ⟨gb107, 1, none⟩ = some (.int .i64 a0_1) := (blk_cell BK107.out 1).trans rfl; have hcz7_2 : w6.cell? ⟨gb107, 2, none⟩ = some (.int .i64 a0_2) := (blk_cell BK107.out 2).trans rfl; have hfz7_0 := blk_frozen BK107.out 0; have hfz7_1 := blk_frozen BK107.out 1; have hfz7_2 := blk_frozen BK107.out 2))
          go_ret
          exact ⟨by first | rfl | (simp [errW_none, errW_some] <;> rfl) | (simp [*, errW_none, errW_some] <;> rfl), by repeat (first | (with_reducible first | exact HB.out | apply below_alloc | apply pw_below_drewN | apply below_drew1 | refine below_set ?_ GE107.out) | exact HB.out)⟩
        · rw [if_neg c5] at H
          have c5b0 : decide ((wrap64 (a0_1 - a0_2)) ≤ a0_0) = false := decide_eq_false c5
          clear c5
          obtain rfl := Option.some.inj H
          go_enter Try.func28, Try.ntmps28
          go_wp2_with (first | ((with_reducible refine gate_dst (N := 1) rfl ?_); refine box_event ?hg (N := 1) ?hd (cs := #[.int .i64 a0_0, .int .i64 a0_1, .int .i64 a0_2]) (t := 28) ?hr ?_; (case hd => rfl); (case hg => rfl); (case hr => first | (go_simp; done) | (go_simp; rfl)); intro gb107 hg w8 hbox hb; have n0_ := Aside0.mk (below_step (by repeat (first | (with_reducible first | exact HB.out | apply below_alloc | apply pw_below_drewN | apply below_drew1) | exact HB.out)) hb); have n1_ := Aside0.mk (hbox); have n2_ := Aside0.mk ((by rw [hg]; exact (below_size (by repeat (first | (with_reducible first | exact HB.out | apply below_alloc | apply pw_below_drewN | apply below_drew1) | exact HB.out))) : w.heap.size ≤ gb107)); have n3_ := Aside0.mk ((by rw [hg]; exact (below_size (by repeat (first | (with_reducible first | exact HB.out | apply below_alloc | apply pw_below_drewN | apply below_drew1) | exact HB.out))) : w.heap.size ≤ gb107)); clear HB; have HB := n0_; have BK107 := n1_; have GW107 := n2_; have GE107 := n3_; clear n0_ n1_ n2_ n3_; clear hb hbox hg; have hcz9_0 : w8.cell? ⟨gb107, 0, none⟩ = some (.int .i64 a0_0) := (blk_cell BK107.out 0).trans rfl; have hcz9_1 : w8.cell? ⟨gb107, 1, none⟩ = some (.int .i64 a0_1) := (blk_cell BK107.out 1).trans rfl; have hcz9_2 : w8.cell? ⟨gb107, 2, none⟩ = some (.int .i64 a0_2) := (blk_cell BK107.out 2).trans rfl; have hfz9_0 := blk_frozen BK107.out 0; have hfz9_1 := blk_frozen BK107.out 1; have hfz9_2 := blk_frozen BK107.out 2))
          go_ret
          exact ⟨by first | rfl | (simp [errW_none, errW_some] <;> rfl) | (simp [*, errW_none, errW_some] <;> rfl), by repeat (first | (with_reducible first | exact HB.out | apply below_alloc | apply pw_below_drewN | apply below_drew1 | refine below_set ?_ GE107.out) | exact HB.out)⟩
      · rw [if_neg c4] at H
        have c4b0 : decide (a0_2 ≤ 562949953421312) = false := decide_eq_false c4
        clear c4
        obtain rfl := Option.some.inj H
        go_enter Try.func28, Try.ntmps28
        go_wp2_with (first | ((with_reducible refine gate_dst (N := 1) rfl ?_); refine box_event ?hg (N := 1) ?hd (cs := #[.int .i64 a0_0, .int .i64 a0_1, .int .i64 a0_2]) (t := 28) ?hr ?_; (case hd => rfl); (case hg => rfl); (case hr => first | (go_simp; done) | (go_simp; rfl)); intro gb107 hg w10 hbox hb; have n0_ := Aside0.mk (below_step (by repeat (first | (with_reducible first | exact HB.out | apply below_alloc | apply pw_below_drewN | apply below_drew1) | exact HB.out)) hb); have n1_ := Aside0.mk (hbox); have n2_ := Aside0.mk ((by rw [hg]; exact (below_size (by repeat (first | (with_reducible first | exact HB.out | apply below_alloc | apply pw_below_drewN | apply below_drew1) | exact HB.out))) : w.heap.size ≤ gb107)); have n3_ := Aside0.mk ((by rw [hg]; exact (below_size (by repeat (first | (with_reducible first | exact HB.out | apply below_alloc | apply pw_below_drewN | apply below_drew1) | exact HB.out))) : w.heap.size ≤ gb107)); clear HB; have HB := n0_; have BK107 := n1_; have GW107 := n2_; have GE107 := n3_; clear n0_ n1_ n2_ n3_; clear hb hbox hg; have hcz11_0 : w10.cell? ⟨gb107, 0, none⟩ = some (.int .i64 a0_0) := (blk_cell BK107.out 0).trans rfl; have hcz11_1 : w10.cell? ⟨gb107, 1, none⟩ = some (.int .i64 a0_1) := (blk_cell BK107.out 1).trans rfl; have hcz11_2 : w10.cell? ⟨gb107, 2, none⟩ = some (.int .i64 a0_2) := (blk_cell BK107.out 2).trans rfl; have hfz11_0 := blk_frozen BK107.out 0; have hfz11_1 := blk_frozen BK107.out 1; have hfz11_2 := blk_frozen BK107.out 2))
        go_ret
        exact ⟨by first | rfl | (simp [errW_none, errW_some] <;> rfl) | (simp [*, errW_none, errW_some] <;> rfl), by repeat (first | (with_reducible first | exact HB.out | apply below_alloc | apply pw_below_drewN | apply below_drew1 | refine below_set ?_ GE107.out) | exact HB.out)⟩
    · rw [if_neg c3] at H
      have c3b0 : decide (a0_1 ≤ a0_2) = false := decide_eq_false c3
      clear c3
      obtain rfl := Option.some.inj H
      go_enter Try.func28, Try.ntmps28
      go_wp2_with (first | ((with_reducible refine gate_dst (N := 1) rfl ?_); refine box_event ?hg (N := 1) ?hd (cs := #[.int .i64 a0_0, .int .i64 a0_1, .int .i64 a0_2]) (t := 28) ?hr ?_; (case hd => rfl); (case hg => rfl); (case hr => first | (go_simp; done) | (go_simp; rfl)); intro gb107 hg w12 hbox hb; have n0_ := Aside0.mk (below_step (by repeat (first | (with_reducible first | exact HB.out | apply below_alloc | apply pw_below_drewN | apply below_drew1) | exact HB.out)) hb); have n1_ := Aside0.mk (hbox); have n2_ := Aside0.mk ((by rw [hg]; exact (below_size (by repeat (first | (with_reducible first | exact HB.out | apply below_alloc | apply pw_below_drewN | apply below_drew1) | exact HB.out))) : w.heap.size ≤ gb107)); have n3_ := Aside0.mk ((by rw [hg]; exact (below_size (by repeat (first | (with_reducible first | exact HB.out | apply below_alloc | apply pw_below_drewN | apply below_drew1) | exact HB.out))) : w.heap.size ≤ gb107)); clear HB; have HB := n0_; have BK107 := n1_; have GW107 := n2_; have GE107 := n3_; clear n0_ n1_ n2_ n3_; clear hb hbox hg; have hcz13_0 : w12.cell? ⟨gb107, 0, none⟩ = some (.int .i64 a0_0) := (blk_cell BK107.out 0).trans rfl; have hcz13_1 : w12.cell? ⟨gb107, 1, none⟩ = some (.int .i64 a0_1) := (blk_cell BK107.out 1).trans rfl; have hcz13_2 : w12.cell? ⟨gb107, 2, none⟩ = some (.int .i64 a0_2) := (blk_cell BK107.out 2).trans rfl; have hfz13_0 := blk_frozen BK107.out 0; have hfz13_1 := blk_frozen BK107.out 1; have hfz13_2 := blk_frozen BK107.out 2))
      go_ret
      exact ⟨by first | rfl | (simp [errW_none, errW_some] <;> rfl) | (simp [*, errW_none, errW_some] <;> rfl), by repeat (first | (with_reducible first | exact HB.out | apply below_alloc | apply pw_below_drewN | apply below_drew1 | refine below_set ?_ GE107.out) | exact HB.out)⟩
  · rw [if_neg c2] at H
    have c2b0 : decide (1 ≤ a0_1) = false := decide_eq_false c2
    clear c2
    obtain rfl := Option.some.inj H
    go_enter Try.func28, Try.ntmps28
    go_wp2_with (first | ((with_reducible refine gate_dst (N := 1) rfl ?_); refine box_event ?hg (N := 1) ?hd (cs := #[.int .i64 a0_0, .int .i64 a0_1, .int .i64 a0_2]) (t := 28) ?hr ?_; (case hd => rfl); (case hg => rfl); (case hr => first | (go_simp; done) | (go_simp; rfl)); intro gb107 hg w14 hbox hb; have n0_ := Aside0.mk (below_step (by repeat (first | (with_reducible first | exact HB.out | apply below_alloc | apply pw_below_drewN | apply below_drew1) | exact HB.out)) hb); have n1_ := Aside0.mk (hbox); have n2_ := Aside0.mk ((by rw [hg]; exact (below_size (by repeat (first | (with_reducible first | exact HB.out | apply below_alloc | apply pw_below_drewN | apply below_drew1) | exact HB.out))) : w.heap.size ≤ gb107)); have n3_ := Aside0.mk ((by rw [hg]; exact (below_size (by repeat (first | (with_reducible first | exact HB.out | apply below_alloc | apply pw_below_drewN | apply below_drew1) | exact HB.out))) : w.heap.size ≤ gb107)); clear HB; have HB := n0_; have BK107 := n1_; have GW107 := n2_; have GE107 := n3_; clear n0_ n1_ n2_ n3_; clear hb hbox hg; have hcz15_0 : w14.cell? ⟨gb107, 0, none⟩ = some (.int .i64 a0_0) := (blk_cell BK107.out 0).trans rfl; have hcz15_1 : w14.cell? ⟨gb107, 1, none⟩ = some (.int .i64 a0_1) := (blk_cell BK107.out 1).trans rfl; have hcz15_2 : w14.cell? ⟨gb107, 2, none⟩ = some (.int .i64 a0_2) := (blk_cell BK107.out 2).trans rfl; have hfz15_0 := blk_frozen BK107.out 0; have hfz15_1 := blk_frozen BK107.out 1; have hfz15_2 := blk_frozen BK107.out 2))
    go_ret
    exact ⟨by first | rfl | (simp [errW_none, errW_some] <;> rfl) | (simp [*, errW_none, errW_some] <;> rfl), by repeat (first | (with_reducible first | exact HB.out | apply below_alloc | apply pw_below_drewN | apply below_drew1 | refine below_set ?_ GE107.out) | exact HB.out)⟩

/-! ### wealth_Factor: function 13 -/
def wealth_Factor.j0 : Nat → Int → Int → Bool → Bool → Int → Int → Int → Option (Int × Int)
  | 0, _, _, _, _, _, _, _ => none
  | k + 1, x1, x2, x3, x29, x109000, x109001, x109002 => if x29 = true then (some (1, 1)) else (if x3 = true then (some (wrap64 ((wrap64 ((wrap64 (8 * x109002)) * 1000)) + (wrap64 (x2 * (wrap64 ((wrap64 (x109000 * 1000)) - (wrap64 (x109001 * x1))))))), wrap64 ((wrap64 (8 * x109002)) * 1000))) else (some (wrap64 ((wrap64 ((wrap64 (8 * x109002)) * 1000)) - (wrap64 (x2 * (wrap64 ((wrap64 (x109000 * 1000)) - (wrap64 (x109001 * x1))))))), wrap64 ((wrap64 (8 * x109002)) * 1000))))
def wealth_Factor.f (k : Nat) (a0_0 : Int) (a0_1 : Int) (a0_2 : Int) (a1 : Int) (a2 : Int) (a3 : Bool) : Option (Int × Int) := (score_Valid.f a0_0 a0_1 a0_2).bind fun t109 => (if t109 = true then (if a1 < (-1000) then (wealth_Factor.j0 k a1 a2 a3 true a0_0 a0_1 a0_2) else (if a1 > 1000 then (wealth_Factor.j0 k a1 a2 a3 true a0_0 a0_1 a0_2) else (if a2 < 0 then (wealth_Factor.j0 k a1 a2 a3 true a0_0 a0_1 a0_2) else (wealth_Factor.j0 k a1 a2 a3 (decide (a2 > 4)) a0_0 a0_1 a0_2)))) else (wealth_Factor.j0 k a1 a2 a3 true a0_0 a0_1 a0_2))
theorem wealth_Factor.mono_l : ∀ k, (∀ y0 y1 y2 y3 y4 y5 y6, LeO (wealth_Factor.j0 k y0 y1 y2 y3 y4 y5 y6) (wealth_Factor.j0 (k + 1) y0 y1 y2 y3 y4 y5 y6))
  | 0 => fun _ _ _ _ _ _ _ r h => by simp [wealth_Factor.j0] at h
  | k + 1 => by
    have ih0 := wealth_Factor.mono_l k
    · intro y0 y1 y2 y3 y4 y5 y6
      unfold wealth_Factor.j0
      repeat' first
      | (with_reducible exact ih0 _ _ _ _ _ _ _)
      | (with_reducible exact LeO.refl _)
      | (with_reducible exact LeO.none _)
      | (with_reducible refine LeO.ite ?_ ?_)
      | (with_reducible refine LeO.bind ?_ (fun _ => ?_))
      | exact ih0 _ _ _ _ _ _ _
      | exact LeO.none _
      | refine LeO.ite ?_ ?_
      | refine LeO.bind ?_ (fun _ => ?_)
theorem wealth_Factor.mono : ∀ a0 a1 a2 a3 a4 a5 k, LeO (wealth_Factor.f k a0 a1 a2 a3 a4 a5) (wealth_Factor.f (k + 1) a0 a1 a2 a3 a4 a5) := by
  intro a0 a1 a2 a3 a4 a5 k
  have ih0 := wealth_Factor.mono_l k
  unfold wealth_Factor.f
  repeat' first
      | (with_reducible exact ih0 _ _ _ _ _ _ _)
      | (with_reducible exact LeO.refl _)
      | (with_reducible exact LeO.none _)
      | (with_reducible refine LeO.ite ?_ ?_)
      | (with_reducible refine LeO.bind ?_ (fun _ => ?_))
      | exact ih0 _ _ _ _ _ _ _
      | exact LeO.none _
      | refine LeO.ite ?_ ?_
      | refine LeO.bind ?_ (fun _ => ?_)
set_option maxHeartbeats 8000000 in
set_option maxRecDepth 100000 in
theorem wealth_Factor.calls (k : Nat) (a0_0 : Int) (a0_1 : Int) (a0_2 : Int) (a1 : Int) (a2 : Int) (a3 : Bool) (r1 : Int) (r2 : Int) (w : World) (h : wealth_Factor.f k a0_0 a0_1 a0_2 a1 a2 a3 = some (r1, r2)) :
    Calls Try.prog 13 #[.agg #[.int .i64 a0_0, .int .i64 a0_1, .int .i64 a0_2], .int .i64 a1, .int .i64 a2, .bool a3] w fun e w' => e = .returned (.tuple #[.int .i64 r1, .int .i64 r2]) ∧ Below w.heap.size w w' := by
  have hu28 := Try.underlying28
  have HB := Aside0.mk (Below.refl w.heap.size w)
  have H : ((score_Valid.f a0_0 a0_1 a0_2).bind fun t109 => (if t109 = true then (if a1 < (-1000) then (wealth_Factor.j0 k a1 a2 a3 true a0_0 a0_1 a0_2) else (if a1 > 1000 then (wealth_Factor.j0 k a1 a2 a3 true a0_0 a0_1 a0_2) else (if a2 < 0 then (wealth_Factor.j0 k a1 a2 a3 true a0_0 a0_1 a0_2) else (wealth_Factor.j0 k a1 a2 a3 (decide (a2 > 4)) a0_0 a0_1 a0_2)))) else (wealth_Factor.j0 k a1 a2 a3 true a0_0 a0_1 a0_2))) = some (r1, r2) := h
  clear h
  have HC5 := Aside0.mk H
  clear H
  go_enter Try.func13, Try.ntmps13
  go_upto_region 1 with (first | ((with_reducible refine gate_dst (N := 4) rfl ?_); refine box_event ?hg (N := 4) ?hd (cs := #[.int .i64 a0_0, .int .i64 a0_1, .int .i64 a0_2]) (t := 28) ?hr ?_; (case hd => rfl); (case hg => rfl); (case hr => first | (go_simp; done) | (go_simp; rfl)); intro gb108 hg w6 hbox hb; have n0_ := Aside0.mk (below_step (by repeat (first | (with_reducible first | exact HB.out | apply below_alloc | apply pw_below_drewN | apply below_drew1) | exact HB.out)) hb); have n1_ := Aside0.mk (hbox); have n2_ := Aside0.mk ((by rw [hg]; exact (below_size (by repeat (first | (with_reducible first | exact HB.out | apply below_alloc | apply pw_below_drewN | apply below_drew1) | exact HB.out))) : w.heap.size ≤ gb108)); have n3_ := Aside0.mk ((by rw [hg]; exact (below_size (by repeat (first | (with_reducible first | exact HB.out | apply below_alloc | apply pw_below_drewN | apply below_drew1) | exact HB.out))) : w.heap.size ≤ gb108)); clear HB; have HB := n0_; have BK108 := n1_; have GW108 := n2_; have GE108 := n3_; clear n0_ n1_ n2_ n3_; clear hb hbox hg))
  (try simp only [Act.put, List.setIfInBounds_toArray, List.set_cons_zero, List.set_cons_succ])
  go_cut [29] (fun v29 wc => ∃ (kq : Nat) (x29_4 : Bool), v29 = .bool x29_4 ∧ Aside0 (wealth_Factor.j0 kq a1 a2 a3 x29_4 a0_0 a0_1 a0_2 = some (r1, r2)) ∧ Aside0 (kq ≤ k) ∧ Aside0 (wc.heap[gb108]? = some (.cells #[.int .i64 a0_0, .int .i64 a0_1, .int .i64 a0_2] 28 (0, 0))) ∧ Aside0 (Below w.heap.size w wc))
  case first =>
    have H := HC5.out
    clear HC5
    replace H := Option.bind_eq_some_iff.mp H
    obtain ⟨t109, A70, H⟩ := H
    replace H : (if t109 = true then (if a1 < (-1000) then (wealth_Factor.j0 k a1 a2 a3 true a0_0 a0_1 a0_2) else (if a1 > 1000 then (wealth_Factor.j0 k a1 a2 a3 true a0_0 a0_1 a0_2) else (if a2 < 0 then (wealth_Factor.j0 k a1 a2 a3 true a0_0 a0_1 a0_2) else (wealth_Factor.j0 k a1 a2 a3 (decide (a2 > 4)) a0_0 a0_1 a0_2)))) else (wealth_Factor.j0 k a1 a2 a3 true a0_0 a0_1 a0_2)) = some (r1, r2) := H
    have A7 := Aside0.mk A70
    clear A70
    by_cases c8 : t109 = true
    · subst c8
      have H1 : (if a1 < (-1000) then (wealth_Factor.j0 k a1 a2 a3 true a0_0 a0_1 a0_2) else (if a1 > 1000 then (wealth_Factor.j0 k a1 a2 a3 true a0_0 a0_1 a0_2) else (if a2 < 0 then (wealth_Factor.j0 k a1 a2 a3 true a0_0 a0_1 a0_2) else (wealth_Factor.j0 k a1 a2 a3 (decide (a2 > 4)) a0_0 a0_1 a0_2)))) = some (r1, r2) := by rw [if_pos rfl] at H; exact H
      clear H
      have H := H1
      clear H1
      by_cases c9 : a1 < (-1000)
      · rw [if_pos c9] at H
        have c9b0 : decide (a1 < (-1000)) = true := decide_eq_true c9
        clear c9
        (first | rw [c9b0] | (simp only [i64_w, i32_w]; rw [c9b0]) | skip)
        have H' := Aside0.mk H
        clear H
        have hcz10_0 : w6.cell? ⟨gb108, 0, none⟩ = some (.int .i64 a0_0) := (blk_cell BK108.out 0).trans rfl
        have hcz10_1 : w6.cell? ⟨gb108, 1, none⟩ = some (.int .i64 a0_1) := (blk_cell BK108.out 1).trans rfl
        have hcz10_2 : w6.cell? ⟨gb108, 2, none⟩ = some (.int .i64 a0_2) := (blk_cell BK108.out 2).trans rfl
        have hfz10_0 := blk_frozen BK108.out 0
        have hfz10_1 := blk_frozen BK108.out 1
        have hfz10_2 := blk_frozen BK108.out 2
        go_wp2_with (first | ((with_reducible refine gate_callee (f := 28) rfl ?_); refine goesL_ (some 12) rfl rfl Try.func28 (by kernel_rfl) rfl #[.agg #[.int .i64 a0_0, .int .i64 a0_1, .int .i64 a0_2]] rfl (by (try simp only [List.map_toArray, List.map_cons, List.map_nil]); first | done | rfl | (simp only [List.length_drop, List.length_take]; rfl)) ?_; (with_reducible refine (score_Valid.calls a0_0 a0_1 a0_2 true _ A7.out).mono ?_); rintro e w11 ⟨rfl, hb⟩; refine ⟨_, rfl, ?_⟩; have n0_ := Aside0.mk (blk_below (g := gb108) (o := .cells #[.int .i64 a0_0, .int .i64 a0_1, .int .i64 a0_2] 28 (0, 0)) (by (with_reducible repeat (first | refine blk_drewN ?_ _ | refine blk_drew ?_ | refine blk_alloc ?_ _)); exact BK108.out) hb); have n1_ := Aside0.mk (below_step (by repeat (first | (with_reducible first | exact HB.out | apply below_alloc | apply pw_below_drewN | apply below_drew1 | refine below_set ?_ GE108.out) | exact HB.out)) hb); clear BK108; clear HB; have BK108 := n0_; have HB := n1_; clear n0_ n1_; (try clear hb); (try clear hb2); (try clear hk); (try clear hi)))
        go_meet
        case rel => exact ⟨_, (true), (by first | rfl | (simp; done) | (simp [*]; done) | exact congrArg (Value.int _) (by unfold wrap64; omega)), H', ⟨by first | omega | exact Nat.le_refl _⟩, ⟨by (with_reducible repeat (first | refine blk_drewN ?_ _ | refine blk_drew ?_ | refine blk_alloc ?_ _)); exact BK108.out⟩, ⟨by repeat (first | (with_reducible first | exact HB.out | apply below_alloc | apply pw_below_drewN | apply below_drew1 | refine below_set ?_ GE108.out) | exact HB.out)⟩⟩
      · rw [if_neg c9] at H
        have c9b0 : decide (a1 < (-1000)) = false := decide_eq_false c9
        clear c9
        (first | rw [c9b0] | (simp only [i64_w, i32_w]; rw [c9b0]) | skip)
        by_cases c12 : a1 > 1000
        · rw [if_pos c12] at H
          have c12b0 : decide (1000 < a1) = true := decide_eq_true c12
          clear c12
          have H' := Aside0.mk H
          clear H
          have hcz13_0 : w6.cell? ⟨gb108, 0, none⟩ = some (.int .i64 a0_0) := (blk_cell BK108.out 0).trans rfl
          have hcz13_1 : w6.cell? ⟨gb108, 1, none⟩ = some (.int .i64 a0_1) := (blk_cell BK108.out 1).trans rfl
          have hcz13_2 : w6.cell? ⟨gb108, 2, none⟩ = some (.int .i64 a0_2) := (blk_cell BK108.out 2).trans rfl
          have hfz13_0 := blk_frozen BK108.out 0
          have hfz13_1 := blk_frozen BK108.out 1
          have hfz13_2 := blk_frozen BK108.out 2
          go_wp2_with (first | ((with_reducible refine gate_callee (f := 28) rfl ?_); refine goesL_ (some 12) rfl rfl Try.func28 (by kernel_rfl) rfl #[.agg #[.int .i64 a0_0, .int .i64 a0_1, .int .i64 a0_2]] rfl (by (try simp only [List.map_toArray, List.map_cons, List.map_nil]); first | done | rfl | (simp only [List.length_drop, List.length_take]; rfl)) ?_; (with_reducible refine (score_Valid.calls a0_0 a0_1 a0_2 true _ A7.out).mono ?_); rintro e w14 ⟨rfl, hb⟩; refine ⟨_, rfl, ?_⟩; have n0_ := Aside0.mk (blk_below (g := gb108) (o := .cells #[.int .i64 a0_0, .int .i64 a0_1, .int .i64 a0_2] 28 (0, 0)) (by (with_reducible repeat (first | refine blk_drewN ?_ _ | refine blk_drew ?_ | refine blk_alloc ?_ _)); exact BK108.out) hb); have n1_ := Aside0.mk (below_step (by repeat (first | (with_reducible first | exact HB.out | apply below_alloc | apply pw_below_drewN | apply below_drew1 | refine below_set ?_ GE108.out) | exact HB.out)) hb); clear BK108; clear HB; have BK108 := n0_; have HB := n1_; clear n0_ n1_; (try clear hb); (try clear hb2); (try clear hk); (try clear hi)))
          go_meet
          case rel => exact ⟨_, (true), (by first | rfl | (simp; done) | (simp [*]; done) | exact congrArg (Value.int _) (by unfold wrap64; omega)), H', ⟨by first | omega | exact Nat.le_refl _⟩, ⟨by (with_reducible repeat (first | refine blk_drewN ?_ _ | refine blk_drew ?_ | refine blk_alloc ?_ _)); exact BK108.out⟩, ⟨by repeat (first | (with_reducible first | exact HB.out | apply below_alloc | apply pw_below_drewN | apply below_drew1 | refine below_set ?_ GE108.out) | exact HB.out)⟩⟩
        · rw [if_neg c12] at H
          have c12b0 : decide (1000 < a1) = false := decide_eq_false c12
          clear c12
          by_cases c15 : a2 < 0
          · rw [if_pos c15] at H
            have c15b0 : decide (a2 < 0) = true := decide_eq_true c15
            clear c15
            have H' := Aside0.mk H
            clear H
            have hcz16_0 : w6.cell? ⟨gb108, 0, none⟩ = some (.int .i64 a0_0) := (blk_cell BK108.out 0).trans rfl
            have hcz16_1 : w6.cell? ⟨gb108, 1, none⟩ = some (.int .i64 a0_1) := (blk_cell BK108.out 1).trans rfl
            have hcz16_2 : w6.cell? ⟨gb108, 2, none⟩ = some (.int .i64 a0_2) := (blk_cell BK108.out 2).trans rfl
            have hfz16_0 := blk_frozen BK108.out 0
            have hfz16_1 := blk_frozen BK108.out 1
            have hfz16_2 := blk_frozen BK108.out 2
            go_wp2_with (first | ((with_reducible refine gate_callee (f := 28) rfl ?_); refine goesL_ (some 12) rfl rfl Try.func28 (by kernel_rfl) rfl #[.agg #[.int .i64 a0_0, .int .i64 a0_1, .int .i64 a0_2]] rfl (by (try simp only [List.map_toArray, List.map_cons, List.map_nil]); first | done | rfl | (simp only [List.length_drop, List.length_take]; rfl)) ?_; (with_reducible refine (score_Valid.calls a0_0 a0_1 a0_2 true _ A7.out).mono ?_); rintro e w17 ⟨rfl, hb⟩; refine ⟨_, rfl, ?_⟩; have n0_ := Aside0.mk (blk_below (g := gb108) (o := .cells #[.int .i64 a0_0, .int .i64 a0_1, .int .i64 a0_2] 28 (0, 0)) (by (with_reducible repeat (first | refine blk_drewN ?_ _ | refine blk_drew ?_ | refine blk_alloc ?_ _)); exact BK108.out) hb); have n1_ := Aside0.mk (below_step (by repeat (first | (with_reducible first | exact HB.out | apply below_alloc | apply pw_below_drewN | apply below_drew1 | refine below_set ?_ GE108.out) | exact HB.out)) hb); clear BK108; clear HB; have BK108 := n0_; have HB := n1_; clear n0_ n1_; (try clear hb); (try clear hb2); (try clear hk); (try clear hi)))
            go_meet
            case rel => exact ⟨_, (true), (by first | rfl | (simp; done) | (simp [*]; done) | exact congrArg (Value.int _) (by unfold wrap64; omega)), H', ⟨by first | omega | exact Nat.le_refl _⟩, ⟨by (with_reducible repeat (first | refine blk_drewN ?_ _ | refine blk_drew ?_ | refine blk_alloc ?_ _)); exact BK108.out⟩, ⟨by repeat (first | (with_reducible first | exact HB.out | apply below_alloc | apply pw_below_drewN | apply below_drew1 | refine below_set ?_ GE108.out) | exact HB.out)⟩⟩
          · rw [if_neg c15] at H
            have c15b0 : decide (a2 < 0) = false := decide_eq_false c15
            clear c15
            have H' := Aside0.mk H
            clear H
            have hcz18_0 : w6.cell? ⟨gb108, 0, none⟩ = some (.int .i64 a0_0) := (blk_cell BK108.out 0).trans rfl
            have hcz18_1 : w6.cell? ⟨gb108, 1, none⟩ = some (.int .i64 a0_1) := (blk_cell BK108.out 1).trans rfl
            have hcz18_2 : w6.cell? ⟨gb108, 2, none⟩ = some (.int .i64 a0_2) := (blk_cell BK108.out 2).trans rfl
            have hfz18_0 := blk_frozen BK108.out 0
            have hfz18_1 := blk_frozen BK108.out 1
            have hfz18_2 := blk_frozen BK108.out 2
            go_wp2_with (first | ((with_reducible refine gate_callee (f := 28) rfl ?_); refine goesL_ (some 12) rfl rfl Try.func28 (by kernel_rfl) rfl #[.agg #[.int .i64 a0_0, .int .i64 a0_1, .int .i64 a0_2]] rfl (by (try simp only [List.map_toArray, List.map_cons, List.map_nil]); first | done | rfl | (simp only [List.length_drop, List.length_take]; rfl)) ?_; (with_reducible refine (score_Valid.calls a0_0 a0_1 a0_2 true _ A7.out).mono ?_); rintro e w19 ⟨rfl, hb⟩; refine ⟨_, rfl, ?_⟩; have n0_ := Aside0.mk (blk_below (g := gb108) (o := .cells #[.int .i64 a0_0, .int .i64 a0_1, .int .i64 a0_2] 28 (0, 0)) (by (with_reducible repeat (first | refine blk_drewN ?_ _ | refine blk_drew ?_ | refine blk_alloc ?_ _)); exact BK108.out) hb); have n1_ := Aside0.mk (below_step (by repeat (first | (with_reducible first | exact HB.out | apply below_alloc | apply pw_below_drewN | apply below_drew1 | refine below_set ?_ GE108.out) | exact HB.out)) hb); clear BK108; clear HB; have BK108 := n0_; have HB := n1_; clear n0_ n1_; (try clear hb); (try clear hb2); (try clear hk); (try clear hi)))
            go_meet
            case rel => exact ⟨_, (decide (a2 > 4)), (by first | rfl | (simp; done) | (simp [*]; done) | exact congrArg (Value.int _) (by unfold wrap64; omega)), H', ⟨by first | omega | exact Nat.le_refl _⟩, ⟨by (with_reducible repeat (first | refine blk_drewN ?_ _ | refine blk_drew ?_ | refine blk_alloc ?_ _)); exact BK108.out⟩, ⟨by repeat (first | (with_reducible first | exact HB.out | apply below_alloc | apply pw_below_drewN | apply below_drew1 | refine below_set ?_ GE108.out) | exact HB.out)⟩⟩
    · replace c8 := Bool.eq_false_iff.mpr c8
      subst c8
      have H1 : (wealth_Factor.j0 k a1 a2 a3 true a0_0 a0_1 a0_2) = some (r1, r2) := by rw [if_neg (show ¬ (false = true) by decide)] at H; exact H
      clear H
      have H := H1
      clear H1
      have H' := Aside0.mk H
      clear H
      have hcz20_0 : w6.cell? ⟨gb108, 0, none⟩ = some (.int .i64 a0_0) := (blk_cell BK108.out 0).trans rfl
      have hcz20_1 : w6.cell? ⟨gb108, 1, none⟩ = some (.int .i64 a0_1) := (blk_cell BK108.out 1).trans rfl
      have hcz20_2 : w6.cell? ⟨gb108, 2, none⟩ = some (.int .i64 a0_2) := (blk_cell BK108.out 2).trans rfl
      have hfz20_0 := blk_frozen BK108.out 0
      have hfz20_1 := blk_frozen BK108.out 1
      have hfz20_2 := blk_frozen BK108.out 2
      go_wp2_with (first | ((with_reducible refine gate_callee (f := 28) rfl ?_); refine goesL_ (some 12) rfl rfl Try.func28 (by kernel_rfl) rfl #[.agg #[.int .i64 a0_0, .int .i64 a0_1, .int .i64 a0_2]] rfl (by (try simp only [List.map_toArray, List.map_cons, List.map_nil]); first | done | rfl | (simp only [List.length_drop, List.length_take]; rfl)) ?_; (with_reducible refine (score_Valid.calls a0_0 a0_1 a0_2 false _ A7.out).mono ?_); rintro e w21 ⟨rfl, hb⟩; refine ⟨_, rfl, ?_⟩; have n0_ := Aside0.mk (blk_below (g := gb108) (o := .cells #[.int .i64 a0_0, .int .i64 a0_1, .int .i64 a0_2] 28 (0, 0)) (by (with_reducible repeat (first | refine blk_drewN ?_ _ | refine blk_drew ?_ | refine blk_alloc ?_ _)); exact BK108.out) hb); have n1_ := Aside0.mk (below_step (by repeat (first | (with_reducible first | exact HB.out | apply below_alloc | apply pw_below_drewN | apply below_drew1 | refine below_set ?_ GE108.out) | exact HB.out)) hb); clear BK108; clear HB; have BK108 := n0_; have HB := n1_; clear n0_ n1_; (try clear hb); (try clear hb2); (try clear hk); (try clear hi)))
      go_meet
      case rel => exact ⟨_, (true), (by first | rfl | (simp; done) | (simp [*]; done) | exact congrArg (Value.int _) (by unfold wrap64; omega)), H', ⟨by first | omega | exact Nat.le_refl _⟩, ⟨by (with_reducible repeat (first | refine blk_drewN ?_ _ | refine blk_drew ?_ | refine blk_alloc ?_ _)); exact BK108.out⟩, ⟨by repeat (first | (with_reducible first | exact HB.out | apply below_alloc | apply pw_below_drewN | apply below_drew1 | refine below_set ?_ GE108.out) | exact HB.out)⟩⟩
  case rest =>
    clear HC5
    try clear c1
    try clear c2
    try clear p2
    try clear p6
    try clear c8
    try clear c9
    try clear c9b0
    try clear c12
    try clear c12b0
    try clear c13
    try clear c15
    try clear c15b0
    try clear hcz10_0
    try clear hcz10_1
    try clear hcz10_2
    try clear hcz13_0
    try clear hcz13_1
    try clear hcz13_2
    try clear hcz16_0
    try clear hcz16_1
    try clear hcz16_2
    try clear hcz18_0
    try clear hcz18_1
    try clear hcz18_2
    try clear hcz20_0
    try clear hcz20_1
    try clear hcz20_2
    try clear hfz10_0
    try clear hfz10_1
    try clear hfz10_2
    try clear hfz13_0
    try clear hfz13_1
    try clear hfz13_2
    try clear hfz16_0
    try clear hfz16_1
    try clear hfz16_2
    try clear hfz18_0
    try clear hfz18_1
    try clear hfz18_2
    try clear hfz20_0
    try clear hfz20_1
    try clear hfz20_2
    obtain ⟨kq, x29_4, rfl, HA, HJ4, BK108, HB⟩ := hcut
    cases kq with
    | zero => exact absurd HA.out (by simp [wealth_Factor.j0])
    | succ kj4 =>
      have H := HA.out
      clear HA
      simp only [wealth_Factor.j0] at H
      by_cases c22 : x29_4 = true
      · subst c22
        have H1 : (some (1, 1)) = some (r1, r2) := by rw [if_pos rfl] at H; exact H
        clear H
        have H := H1
        clear H1
        simp only [Option.some.injEq, Prod.mk.injEq] at H
        obtain ⟨rfl, rfl⟩ := H
        go_wp2
        go_ret2
        exact ⟨by first | rfl | (simp [errW_none, errW_some] <;> rfl) | (simp [*, errW_none, errW_some] <;> rfl), by repeat (first | (with_reducible first | exact HB.out | apply below_alloc | apply pw_below_drewN | apply below_drew1 | refine below_set ?_ GE108.out) | exact HB.out)⟩
      · replace c22 := Bool.eq_false_iff.mpr c22
        subst c22
        have H1 : (if a3 = true then (some (wrap64 ((wrap64 ((wrap64 (8 * a0_2)) * 1000)) + (wrap64 (a2 * (wrap64 ((wrap64 (a0_0 * 1000)) - (wrap64 (a0_1 * a1))))))), wrap64 ((wrap64 (8 * a0_2)) * 1000))) else (some (wrap64 ((wrap64 ((wrap64 (8 * a0_2)) * 1000)) - (wrap64 (a2 * (wrap64 ((wrap64 (a0_0 * 1000)) - (wrap64 (a0_1 * a1))))))), wrap64 ((wrap64 (8 * a0_2)) * 1000)))) = some (r1, r2) := by rw [if_neg (show ¬ (false = true) by decide)] at H; exact H
        clear H
        have H := H1
        clear H1
        by_cases c23 : a3 = true
        · subst c23
          have H1 : (some (wrap64 ((wrap64 ((wrap64 (8 * a0_2)) * 1000)) + (wrap64 (a2 * (wrap64 ((wrap64 (a0_0 * 1000)) - (wrap64 (a0_1 * a1))))))), wrap64 ((wrap64 (8 * a0_2)) * 1000))) = some (r1, r2) := by rw [if_pos rfl] at H; exact H
          clear H
          have H := H1
          clear H1
          simp only [Option.some.injEq, Prod.mk.injEq] at H
          obtain ⟨rfl, rfl⟩ := H
          have hcz24_0 : wc.cell? ⟨gb108, 0, none⟩ = some (.int .i64 a0_0) := (blk_cell BK108.out 0).trans rfl
          have hcz24_1 : wc.cell? ⟨gb108, 1, none⟩ = some (.int .i64 a0_1) := (blk_cell BK108.out 1).trans rfl
          have hcz24_2 : wc.cell? ⟨gb108, 2, none⟩ = some (.int .i64 a0_2) := (blk_cell BK108.out 2).trans rfl
          have hfz24_0 := blk_frozen BK108.out 0
          have hfz24_1 := blk_frozen BK108.out 1
          have hfz24_2 := blk_frozen BK108.out 2
          go_wp2
          go_ret2
          exact ⟨by first | rfl | (simp [errW_none, errW_some] <;> rfl) | (simp [*, errW_none, errW_some] <;> rfl), by repeat (first | (with_reducible first | exact HB.out | apply below_alloc | apply pw_below_drewN | apply below_drew1 | refine below_set ?_ GE108.out) | exact HB.out)⟩
        · replace c23 := Bool.eq_false_iff.mpr c23
          subst c23
          have H1 : (some (wrap64 ((wrap64 ((wrap64 (8 * a0_2)) * 1000)) - (wrap64 (a2 * (wrap64 ((wrap64 (a0_0 * 1000)) - (wrap64 (a0_1 * a1))))))), wrap64 ((wrap64 (8 * a0_2)) * 1000))) = some (r1, r2) := by rw [if_neg (show ¬ (false = true) by decide)] at H; exact H
          clear H
          have H := H1
          clear H1
          simp only [Option.some.injEq, Prod.mk.injEq] at H
          obtain ⟨rfl, rfl⟩ := H
          have hcz25_0 : wc.cell? ⟨gb108, 0, none⟩ = some (.int .i64 a0_0) := (blk_cell BK108.out 0).trans rfl
          have hcz25_1 : wc.cell? ⟨gb108, 1, none⟩ = some (.int .i64 a0_1) := (blk_cell BK108.out 1).trans rfl
          have hcz25_2 : wc.cell? ⟨gb108, 2, none⟩ = some (.int .i64 a0_2) := (blk_cell BK108.out 2).trans rfl
          have hfz25_0 := blk_frozen BK108.out 0
          have hfz25_1 := blk_frozen BK108.out 1
          have hfz25_2 := blk_frozen BK108.out 2
          go_wp2
          go_ret2
          exact ⟨by first | rfl | (simp [errW_none, errW_some] <;> rfl) | (simp [*, errW_none, errW_some] <;> rfl), by repeat (first | (with_reducible first | exact HB.out | apply below_alloc | apply pw_below_drewN | apply below_drew1 | refine below_set ?_ GE108.out) | exact HB.out)⟩

/-! ### wealth_Threshold: function 17 -/
def wealth_Threshold.j0 : Nat → Int → Int → Bool → Option (Int)
  | 0, _, _, _ => none
  | k + 1, x0, x1, x18 => if x18 = true then (some 2305843009213693953) else (if x0 = 0 then (none) else (some (wrap64 (Int.tdiv (wrap64 ((wrap64 ((wrap64 ((wrap64 (x1 * 1000)) * 4294967296)) + x0)) - 1)) x0))))
def wealth_Threshold.f (k : Nat) (a0 : Int) (a1 : Int) : Option (Int) := if a0 < 1 then (wealth_Threshold.j0 k a0 a1 true) else (if a0 > 999 then (wealth_Threshold.j0 k a0 a1 true) else (if a1 < 1 then (wealth_Threshold.j0 k a0 a1 true) else (wealth_Threshold.j0 k a0 a1 (decide (a1 > 1000)))))
theorem wealth_Threshold.mono_l : ∀ k, (∀ y0 y1 y2, LeO (wealth_Threshold.j0 k y0 y1 y2) (wealth_Threshold.j0 (k + 1) y0 y1 y2))
  | 0 => fun _ _ _ r h => by simp [wealth_Threshold.j0] at h
  | k + 1 => by
    have ih0 := wealth_Threshold.mono_l k
    · intro y0 y1 y2
      unfold wealth_Threshold.j0
      repeat' first
      | (with_reducible exact ih0 _ _ _)
      | (with_reducible exact LeO.refl _)
      | (with_reducible exact LeO.none _)
      | (with_reducible refine LeO.ite ?_ ?_)
      | (with_reducible refine LeO.bind ?_ (fun _ => ?_))
      | exact ih0 _ _ _
      | exact LeO.none _
      | refine LeO.ite ?_ ?_
      | refine LeO.bind ?_ (fun _ => ?_)
theorem wealth_Threshold.mono : ∀ a0 a1 k, LeO (wealth_Threshold.f k a0 a1) (wealth_Threshold.f (k + 1) a0 a1) := by
  intro a0 a1 k
  have ih0 := wealth_Threshold.mono_l k
  unfold wealth_Threshold.f
  repeat' first
      | (with_reducible exact ih0 _ _ _)
      | (with_reducible exact LeO.refl _)
      | (with_reducible exact LeO.none _)
      | (with_reducible refine LeO.ite ?_ ?_)
      | (with_reducible refine LeO.bind ?_ (fun _ => ?_))
      | exact ih0 _ _ _
      | exact LeO.none _
      | refine LeO.ite ?_ ?_
      | refine LeO.bind ?_ (fun _ => ?_)
set_option maxHeartbeats 8000000 in
set_option maxRecDepth 100000 in
theorem wealth_Threshold.calls (k : Nat) (a0 : Int) (a1 : Int) (r : Int) (w : World) (h : wealth_Threshold.f k a0 a1 = some r) :
    Calls Try.prog 17 #[.int .i64 a0, .int .i64 a1] w fun e w' => e = .returned (.int .i64 r) ∧ Drawn0 w w' := by
  have H : (if a0 < 1 then (wealth_Threshold.j0 k a0 a1 true) else (if a0 > 999 then (wealth_Threshold.j0 k a0 a1 true) else (if a1 < 1 then (wealth_Threshold.j0 k a0 a1 true) else (wealth_Threshold.j0 k a0 a1 (decide (a1 > 1000)))))) = some r := h
  clear h
  have HC3 := Aside0.mk H
  clear H
  go_enter Try.func17, Try.ntmps17
  go_upto_region 1 with (fail)
  go_cut [18] (fun v18 wc => ∃ (kq : Nat) (x18_2 : Bool), v18 = .bool x18_2 ∧ Aside0 (wealth_Threshold.j0 kq a0 a1 x18_2 = some r) ∧ Aside0 (kq ≤ k) ∧ Drawn0 w wc)
  case first =>
    have H := HC3.out
    clear HC3
    by_cases c4 : a0 < 1
    · rw [if_pos c4] at H
      have c4b0 : decide (a0 < 1) = true := decide_eq_true c4
      clear c4
      (first | rw [c4b0] | (simp only [i64_w, i32_w]; rw [c4b0]) | skip)
      have H' := Aside0.mk H
      clear H
      go_wp2
      go_meet
      case rel => exact ⟨_, (true), (by first | rfl | (simp; done) | (simp [*]; done) | exact congrArg (Value.int _) (by unfold wrap64; omega)), H', ⟨by first | omega | exact Nat.le_refl _⟩, by repeat (first | exact Drawn0.refl _ | apply Drawn0.step)⟩
    · rw [if_neg c4] at H
      have c4b0 : decide (a0 < 1) = false := decide_eq_false c4
      clear c4
      (first | rw [c4b0] | (simp only [i64_w, i32_w]; rw [c4b0]) | skip)
      by_cases c5 : a0 > 999
      · rw [if_pos c5] at H
        have c5b0 : decide (999 < a0) = true := decide_eq_true c5
        clear c5
        have H' := Aside0.mk H
        clear H
        go_wp2
        go_meet
        case rel => exact ⟨_, (true), (by first | rfl | (simp; done) | (simp [*]; done) | exact congrArg (Value.int _) (by unfold wrap64; omega)), H', ⟨by first | omega | exact Nat.le_refl _⟩, by repeat (first | exact Drawn0.refl _ | apply Drawn0.step)⟩
      · rw [if_neg c5] at H
        have c5b0 : decide (999 < a0) = false := decide_eq_false c5
        clear c5
        by_cases c6 : a1 < 1
        · rw [if_pos c6] at H
          have c6b0 : decide (a1 < 1) = true := decide_eq_true c6
          clear c6
          have H' := Aside0.mk H
          clear H
          go_wp2
          go_meet
          case rel => exact ⟨_, (true), (by first | rfl | (simp; done) | (simp [*]; done) | exact congrArg (Value.int _) (by unfold wrap64; omega)), H', ⟨by first | omega | exact Nat.le_refl _⟩, by repeat (first | exact Drawn0.refl _ | apply Drawn0.step)⟩
        · rw [if_neg c6] at H
          have c6b0 : decide (a1 < 1) = false := decide_eq_false c6
          clear c6
          have H' := Aside0.mk H
          clear H
          go_wp2
          go_meet
          case rel => exact ⟨_, (decide (a1 > 1000)), (by first | rfl | (simp; done) | (simp [*]; done) | exact congrArg (Value.int _) (by unfold wrap64; omega)), H', ⟨by first | omega | exact Nat.le_refl _⟩, by repeat (first | exact Drawn0.refl _ | apply Drawn0.step)⟩
  case rest =>
    clear HC3
    try clear c1
    try clear p2
    try clear c4
    try clear c4b0
    try clear c5
    try clear c5b0
    try clear c6
    try clear c6b0
    try clear p6
    obtain ⟨kq, x18_2, rfl, HA, HJ2, ⟨mc2, rfl⟩⟩ := hcut
    cases kq with
    | zero => exact absurd HA.out (by simp [wealth_Threshold.j0])
    | succ kj2 =>
      have H := HA.out
      clear HA
      simp only [wealth_Threshold.j0] at H
      by_cases c7 : x18_2 = true
      · subst c7
        have H1 : (some 2305843009213693953) = some r := by rw [if_pos rfl] at H; exact H
        clear H
        have H := H1
        clear H1
        obtain rfl := Option.some.inj H
        go_wp2
        go_ret
        exact ⟨by first | rfl | (simp; done) | (simp [*]; done), by repeat (first | exact Drawn0.refl _ | apply Drawn0.step)⟩
      · replace c7 := Bool.eq_false_iff.mpr c7
        subst c7
        have H1 : (if a0 = 0 then (none) else (some (wrap64 (Int.tdiv (wrap64 ((wrap64 ((wrap64 ((wrap64 (a1 * 1000)) * 4294967296)) + a0)) - 1)) a0)))) = some r := by rw [if_neg (show ¬ (false = true) by decide)] at H; exact H
        clear H
        have H := H1
        clear H1
        by_cases c8 : a0 = 0
        · rw [if_pos c8] at H
          exact absurd H (by simp)
        · rw [if_neg c8] at H
          have c8b0 : (a0 == 0) = false := beq_eq_false_iff_ne.mpr c8
          have c8b1 : (a0 != 0) = true := bne_iff_ne.mpr c8
          obtain rfl := Option.some.inj H
          go_wp2
          go_ret
          exact ⟨by first | rfl | (simp; done) | (simp [*]; done), by repeat (first | exact Drawn0.refl _ | apply Drawn0.step)⟩

/-! ### flagstonelaw40_awake: function 10 -/
def flagstonelaw40_awake.f (k : Nat)  : Option (Bool) := (wealth_Factor.f k 0 1 1 0 1 true).bind fun bt110 => (if bt110.1 = 8000 then (if bt110.2 = 8000 then ((wealth_Threshold.f k 50 2).bind fun t112 => (if t112 = 171798691840 then ((wealth_Grow.f k 3 2 4).bind fun t113 => (some (t113 == 1))) else (some false))) else (some false)) else (some false))
theorem flagstonelaw40_awake.mono : ∀ k, LeO (flagstonelaw40_awake.f k ) (flagstonelaw40_awake.f (k + 1) ) := by
  intro  k
  unfold flagstonelaw40_awake.f
  repeat' first
      | (with_reducible exact wealth_Factor.mono _ _ _ _ _ _ _)
      | (with_reducible exact wealth_Grow.mono _ _ _ _)
      | (with_reducible exact wealth_Threshold.mono _ _ _)
      | (with_reducible exact LeO.refl _)
      | (with_reducible exact LeO.none _)
      | (with_reducible refine LeO.ite ?_ ?_)
      | (with_reducible refine LeO.bind ?_ (fun _ => ?_))
      | exact wealth_Factor.mono _ _ _ _ _ _ _
      | exact wealth_Grow.mono _ _ _ _
      | exact wealth_Threshold.mono _ _ _
      | exact LeO.none _
      | refine LeO.ite ?_ ?_
      | refine LeO.bind ?_ (fun _ => ?_)
set_option maxHeartbeats 8000000 in
set_option maxRecDepth 100000 in
theorem flagstonelaw40_awake.calls (k : Nat)  (r : Bool) (w : World) (h : flagstonelaw40_awake.f k  = some r) :
    Calls Try.prog 10 #[] w fun e w' => e = .returned (.bool r) ∧ Below w.heap.size w w' := by
  have hu28 := Try.underlying28
  have HB := Aside0.mk (Below.refl w.heap.size w)
  have H : ((wealth_Factor.f k 0 1 1 0 1 true).bind fun bt110 => (if bt110.1 = 8000 then (if bt110.2 = 8000 then ((wealth_Threshold.f k 50 2).bind fun t112 => (if t112 = 171798691840 then ((wealth_Grow.f k 3 2 4).bind fun t113 => (some (t113 == 1))) else (some false))) else (some false)) else (some false))) = some r := h
  clear h
  replace H := Option.bind_eq_some_iff.mp H
  obtain ⟨⟨t110, t111⟩, A10, H⟩ := H
  replace H : (if t110 = 8000 then (if t111 = 8000 then ((wealth_Threshold.f k 50 2).bind fun t112 => (if t112 = 171798691840 then ((wealth_Grow.f k 3 2 4).bind fun t113 => (some (t113 == 1))) else (some false))) else (some false)) else (some false)) = some r := H
  have A1 := Aside0.mk A10
  clear A10
  by_cases c2 : t110 = 8000
  · rw [if_pos c2] at H
    have c2b0 : (t110 == 8000) = true := beq_iff_eq.mpr c2
    have c2b1 : (t110 != 8000) = false := bne_eq_false_iff_eq.mpr c2
    clear c2
    by_cases c3 : t111 = 8000
    · rw [if_pos c3] at H
      have c3b0 : (t111 == 8000) = true := beq_iff_eq.mpr c3
      have c3b1 : (t111 != 8000) = false := bne_eq_false_iff_eq.mpr c3
      clear c3
      replace H := Option.bind_eq_some_iff.mp H
      obtain ⟨t112, A40, H⟩ := H
      replace H : (if t112 = 171798691840 then ((wealth_Grow.f k 3 2 4).bind fun t113 => (some (t113 == 1))) else (some false)) = some r := H
      have A4 := Aside0.mk A40
      clear A40
      by_cases c5 : t112 = 171798691840
      · rw [if_pos c5] at H
        have c5b0 : (t112 == 171798691840) = true := beq_iff_eq.mpr c5
        have c5b1 : (t112 != 171798691840) = false := bne_eq_false_iff_eq.mpr c5
        clear c5
        replace H := Option.bind_eq_some_iff.mp H
        obtain ⟨t113, A60, H⟩ := H
        replace H : (some (t113 == 1)) = some r := H
        have A6 := Aside0.mk A60
        clear A60
        obtain rfl := Option.some.inj H
        go_enter Try.func10, Try.ntmps10
        go_wp2_with (first | ((with_reducible refine gate_callee (f := 13) rfl ?_); refine goesL_ (some 5) rfl rfl Try.func13 (by kernel_rfl) rfl #[.agg #[.int .i64 0, .int .i64 1, .int .i64 1], .int .i64 0, .int .i64 1, .bool true] rfl (by (try simp only [List.map_toArray, List.map_cons, List.map_nil]); first | done | rfl | (simp only [List.length_drop, List.length_take]; rfl)) ?_; (with_reducible refine (wealth_Factor.calls k 0 1 1 0 1 true t110 t111 _ A1.out).mono ?_); rintro e w7 ⟨rfl, hb⟩; refine ⟨_, rfl, ?_⟩; have n0_ := Aside0.mk (below_step (by repeat (first | (with_reducible first | exact HB.out | apply below_alloc | apply pw_below_drewN | apply below_drew1) | exact HB.out)) hb); clear HB; have HB := n0_; clear n0_; (try clear hb); (try clear hb2); (try clear hk); (try clear hi)) | (go_at_call 17; (with_reducible refine (wealth_Threshold.calls k 50 2 t112 _ A4.out).mono ?_); rintro e w' ⟨rfl, ⟨nd, rfl⟩⟩) | (go_at_call 11; (with_reducible refine (wealth_Grow.calls k 3 2 4 t113 _ A6.out).mono ?_); rintro e w8 ⟨rfl, hb⟩; have n0_ := Aside0.mk (below_step (by repeat (first | (with_reducible first | exact HB.out | apply below_alloc | apply pw_below_drewN | apply below_drew1) | exact HB.out)) hb); clear HB; have HB := n0_; clear n0_; (try clear hb); (try clear hb2); (try clear hk); (try clear hi)))
        go_ret
        exact ⟨by first | rfl | (simp [errW_none, errW_some] <;> rfl) | (simp [*, errW_none, errW_some] <;> rfl), by repeat (first | (with_reducible first | exact HB.out | apply below_alloc | apply pw_below_drewN | apply below_drew1) | exact HB.out)⟩
      · rw [if_neg c5] at H
        have c5b0 : (t112 == 171798691840) = false := beq_eq_false_iff_ne.mpr c5
        have c5b1 : (t112 != 171798691840) = true := bne_iff_ne.mpr c5
        obtain rfl := Option.some.inj H
        go_enter Try.func10, Try.ntmps10
        go_wp2_with (first | ((with_reducible refine gate_callee (f := 13) rfl ?_); refine goesL_ (some 5) rfl rfl Try.func13 (by kernel_rfl) rfl #[.agg #[.int .i64 0, .int .i64 1, .int .i64 1], .int .i64 0, .int .i64 1, .bool true] rfl (by (try simp only [List.map_toArray, List.map_cons, List.map_nil]); first | done | rfl | (simp only [List.length_drop, List.length_take]; rfl)) ?_; (with_reducible refine (wealth_Factor.calls k 0 1 1 0 1 true t110 t111 _ A1.out).mono ?_); rintro e w9 ⟨rfl, hb⟩; refine ⟨_, rfl, ?_⟩; have n0_ := Aside0.mk (below_step (by repeat (first | (with_reducible first | exact HB.out | apply below_alloc | apply pw_below_drewN | apply below_drew1) | exact HB.out)) hb); clear HB; have HB := n0_; clear n0_; (try clear hb); (try clear hb2); (try clear hk); (try clear hi)) | (go_at_call 17; (with_reducible refine (wealth_Threshold.calls k 50 2 t112 _ A4.out).mono ?_); rintro e w' ⟨rfl, ⟨nd, rfl⟩⟩))
        go_ret
        exact ⟨by first | rfl | (simp [errW_none, errW_some] <;> rfl) | (simp [*, errW_none, errW_some] <;> rfl), by repeat (first | (with_reducible first | exact HB.out | apply below_alloc | apply pw_below_drewN | apply below_drew1) | exact HB.out)⟩
    · rw [if_neg c3] at H
      have c3b0 : (t111 == 8000) = false := beq_eq_false_iff_ne.mpr c3
      have c3b1 : (t111 != 8000) = true := bne_iff_ne.mpr c3
      obtain rfl := Option.some.inj H
      go_enter Try.func10, Try.ntmps10
      go_wp2_with (first | ((with_reducible refine gate_callee (f := 13) rfl ?_); refine goesL_ (some 5) rfl rfl Try.func13 (by kernel_rfl) rfl #[.agg #[.int .i64 0, .int .i64 1, .int .i64 1], .int .i64 0, .int .i64 1, .bool true] rfl (by (try simp only [List.map_toArray, List.map_cons, List.map_nil]); first | done | rfl | (simp only [List.length_drop, List.length_take]; rfl)) ?_; (with_reducible refine (wealth_Factor.calls k 0 1 1 0 1 true t110 t111 _ A1.out).mono ?_); rintro e w10 ⟨rfl, hb⟩; refine ⟨_, rfl, ?_⟩; have n0_ := Aside0.mk (below_step (by repeat (first | (with_reducible first | exact HB.out | apply below_alloc | apply pw_below_drewN | apply below_drew1) | exact HB.out)) hb); clear HB; have HB := n0_; clear n0_; (try clear hb); (try clear hb2); (try clear hk); (try clear hi)))
      go_ret
      exact ⟨by first | rfl | (simp [errW_none, errW_some] <;> rfl) | (simp [*, errW_none, errW_some] <;> rfl), by repeat (first | (with_reducible first | exact HB.out | apply below_alloc | apply pw_below_drewN | apply below_drew1) | exact HB.out)⟩
  · rw [if_neg c2] at H
    have c2b0 : (t110 == 8000) = false := beq_eq_false_iff_ne.mpr c2
    have c2b1 : (t110 != 8000) = true := bne_iff_ne.mpr c2
    obtain rfl := Option.some.inj H
    go_enter Try.func10, Try.ntmps10
    go_wp2_with (first | ((with_reducible refine gate_callee (f := 13) rfl ?_); refine goesL_ (some 5) rfl rfl Try.func13 (by kernel_rfl) rfl #[.agg #[.int .i64 0, .int .i64 1, .int .i64 1], .int .i64 0, .int .i64 1, .bool true] rfl (by (try simp only [List.map_toArray, List.map_cons, List.map_nil]); first | done | rfl | (simp only [List.length_drop, List.length_take]; rfl)) ?_; (with_reducible refine (wealth_Factor.calls k 0 1 1 0 1 true t110 t111 _ A1.out).mono ?_); rintro e w11 ⟨rfl, hb⟩; refine ⟨_, rfl, ?_⟩; have n0_ := Aside0.mk (below_step (by repeat (first | (with_reducible first | exact HB.out | apply below_alloc | apply pw_below_drewN | apply below_drew1) | exact HB.out)) hb); clear HB; have HB := n0_; clear n0_; (try clear hb); (try clear hb2); (try clear hk); (try clear hi)))
    go_ret
    exact ⟨by first | rfl | (simp [errW_none, errW_some] <;> rfl) | (simp [*, errW_none, errW_some] <;> rfl), by repeat (first | (with_reducible first | exact HB.out | apply below_alloc | apply pw_below_drewN | apply below_drew1) | exact HB.out)⟩

/-! ### flagstoneref40_Grow: function 12 -/
def flagstoneref40_Grow.j0 : Nat → Int → Int → Int → Bool → Option (Int)
  | 0, _, _, _, _ => none
  | k + 1, x0, x1, x2, x28 => if x28 = true then (some 0) else ((bits_Mul64.f (IntKind.u64.wrap (x0)) (IntKind.u64.wrap (x1))).bind fun bt114 => (if bt114.1 ≥ (IntKind.u64.wrap (x2)) then (some 2305843009213693952) else ((bits_Div64.f k bt114.1 bt114.2 (IntKind.u64.wrap (x2))).bind fun bt116 => (some (wrap64 (mn bt116.1 2305843009213693952))))))
def flagstoneref40_Grow.f (k : Nat) (a0 : Int) (a1 : Int) (a2 : Int) : Option (Int) := if a0 < 0 then (flagstoneref40_Grow.j0 k a0 a1 a2 true) else (if a0 > 2305843009213693952 then (flagstoneref40_Grow.j0 k a0 a1 a2 true) else (if a2 < 1 then (flagstoneref40_Grow.j0 k a0 a1 a2 true) else (if a2 > 4611686018427387904 then (flagstoneref40_Grow.j0 k a0 a1 a2 true) else (flagstoneref40_Grow.j0 k a0 a1 a2 (decide (a1 < 0))))))
theorem flagstoneref40_Grow.mono_l : ∀ k, (∀ y0 y1 y2 y3, LeO (flagstoneref40_Grow.j0 k y0 y1 y2 y3) (flagstoneref40_Grow.j0 (k + 1) y0 y1 y2 y3))
  | 0 => fun _ _ _ _ r h => by simp [flagstoneref40_Grow.j0] at h
  | k + 1 => by
    have ih0 := flagstoneref40_Grow.mono_l k
    · intro y0 y1 y2 y3
      unfold flagstoneref40_Grow.j0
      repeat' first
      | (with_reducible exact ih0 _ _ _ _)
      | (with_reducible exact bits_Div64.mono _ _ _ _)
      | (with_reducible exact LeO.refl _)
      | (with_reducible exact LeO.none _)
      | (with_reducible refine LeO.ite ?_ ?_)
      | (with_reducible refine LeO.bind ?_ (fun _ => ?_))
      | exact ih0 _ _ _ _
      | exact bits_Div64.mono _ _ _ _
      | exact LeO.none _
      | refine LeO.ite ?_ ?_
      | refine LeO.bind ?_ (fun _ => ?_)
theorem flagstoneref40_Grow.mono : ∀ a0 a1 a2 k, LeO (flagstoneref40_Grow.f k a0 a1 a2) (flagstoneref40_Grow.f (k + 1) a0 a1 a2) := by
  intro a0 a1 a2 k
  have ih0 := flagstoneref40_Grow.mono_l k
  unfold flagstoneref40_Grow.f
  repeat' first
      | (with_reducible exact ih0 _ _ _ _)
      | (with_reducible exact bits_Div64.mono _ _ _ _)
      | (with_reducible exact LeO.refl _)
      | (with_reducible exact LeO.none _)
      | (with_reducible refine LeO.ite ?_ ?_)
      | (with_reducible refine LeO.bind ?_ (fun _ => ?_))
      | exact ih0 _ _ _ _
      | exact bits_Div64.mono _ _ _ _
      | exact LeO.none _
      | refine LeO.ite ?_ ?_
      | refine LeO.bind ?_ (fun _ => ?_)
set_option maxHeartbeats 8000000 in
set_option maxRecDepth 100000 in
theorem flagstoneref40_Grow.calls (k : Nat) (a0 : Int) (a1 : Int) (a2 : Int) (r : Int) (w : World) (h : flagstoneref40_Grow.f k a0 a1 a2 = some r) :
    Calls Try.prog 12 #[.int .i64 a0, .int .i64 a1, .int .i64 a2] w fun e w' => e = .returned (.int .i64 r) ∧ Below w.heap.size w w' := by
  have HB := Aside0.mk (Below.refl w.heap.size w)
  have H : (if a0 < 0 then (flagstoneref40_Grow.j0 k a0 a1 a2 true) else (if a0 > 2305843009213693952 then (flagstoneref40_Grow.j0 k a0 a1 a2 true) else (if a2 < 1 then (flagstoneref40_Grow.j0 k a0 a1 a2 true) else (if a2 > 4611686018427387904 then (flagstoneref40_Grow.j0 k a0 a1 a2 true) else (flagstoneref40_Grow.j0 k a0 a1 a2 (decide (a1 < 0))))))) = some r := h
  clear h
  have HC4 := Aside0.mk H
  clear H
  go_enter Try.func12, Try.ntmps12
  go_upto_region 1 with (fail)
  go_cut [28] (fun v28 wc => ∃ (kq : Nat) (x28_3 : Bool), v28 = .bool x28_3 ∧ Aside0 (flagstoneref40_Grow.j0 kq a0 a1 a2 x28_3 = some r) ∧ Aside0 (kq ≤ k) ∧ Aside0 (Below w.heap.size w wc))
  case first =>
    have H := HC4.out
    clear HC4
    by_cases c5 : a0 < 0
    · rw [if_pos c5] at H
      have c5b0 : decide (a0 < 0) = true := decide_eq_true c5
      clear c5
      (first | rw [c5b0] | (simp only [i64_w, i32_w]; rw [c5b0]) | skip)
      have H' := Aside0.mk H
      clear H
      go_wp2
      go_meet
      case rel => exact ⟨_, (true), (by first | rfl | (simp; done) | (simp [*]; done) | exact congrArg (Value.int _) (by unfold wrap64; omega)), H', ⟨by first | omega | exact Nat.le_refl _⟩, ⟨by repeat (first | (with_reducible first | exact HB.out | apply below_alloc | apply pw_below_drewN | apply below_drew1) | exact HB.out)⟩⟩
    · rw [if_neg c5] at H
      have c5b0 : decide (a0 < 0) = false := decide_eq_false c5
      clear c5
      (first | rw [c5b0] | (simp only [i64_w, i32_w]; rw [c5b0]) | skip)
      by_cases c6 : a0 > 2305843009213693952
      · rw [if_pos c6] at H
        have c6b0 : decide (2305843009213693952 < a0) = true := decide_eq_true c6
        clear c6
        have H' := Aside0.mk H
        clear H
        go_wp2
        go_meet
        case rel => exact ⟨_, (true), (by first | rfl | (simp; done) | (simp [*]; done) | exact congrArg (Value.int _) (by unfold wrap64; omega)), H', ⟨by first | omega | exact Nat.le_refl _⟩, ⟨by repeat (first | (with_reducible first | exact HB.out | apply below_alloc | apply pw_below_drewN | apply below_drew1) | exact HB.out)⟩⟩
      · rw [if_neg c6] at H
        have c6b0 : decide (2305843009213693952 < a0) = false := decide_eq_false c6
        clear c6
        by_cases c7 : a2 < 1
        · rw [if_pos c7] at H
          have c7b0 : decide (a2 < 1) = true := decide_eq_true c7
          clear c7
          have H' := Aside0.mk H
          clear H
          go_wp2
          go_meet
          case rel => exact ⟨_, (true), (by first | rfl | (simp; done) | (simp [*]; done) | exact congrArg (Value.int _) (by unfold wrap64; omega)), H', ⟨by first | omega | exact Nat.le_refl _⟩, ⟨by repeat (first | (with_reducible first | exact HB.out | apply below_alloc | apply pw_below_drewN | apply below_drew1) | exact HB.out)⟩⟩
        · rw [if_neg c7] at H
          have c7b0 : decide (a2 < 1) = false := decide_eq_false c7
          clear c7
          by_cases c8 : a2 > 4611686018427387904
          · rw [if_pos c8] at H
            have c8b0 : decide (4611686018427387904 < a2) = true := decide_eq_true c8
            clear c8
            have H' := Aside0.mk H
            clear H
            go_wp2
            go_meet
            case rel => exact ⟨_, (true), (by first | rfl | (simp; done) | (simp [*]; done) | exact congrArg (Value.int _) (by unfold wrap64; omega)), H', ⟨by first | omega | exact Nat.le_refl _⟩, ⟨by repeat (first | (with_reducible first | exact HB.out | apply below_alloc | apply pw_below_drewN | apply below_drew1) | exact HB.out)⟩⟩
          · rw [if_neg c8] at H
            have c8b0 : decide (4611686018427387904 < a2) = false := decide_eq_false c8
            clear c8
            have H' := Aside0.mk H
            clear H
            go_wp2
            go_meet
            case rel => exact ⟨_, (decide (a1 < 0)), (by first | rfl | (simp; done) | (simp [*]; done) | exact congrArg (Value.int _) (by unfold wrap64; omega)), H', ⟨by first | omega | exact Nat.le_refl _⟩, ⟨by repeat (first | (with_reducible first | exact HB.out | apply below_alloc | apply pw_below_drewN | apply below_drew1) | exact HB.out)⟩⟩
  case rest =>
    clear HC4
    try clear c1
    try clear p2
    try clear c5
    try clear c5b0
    try clear c6
    try clear c6b0
    try clear p6
    try clear c7
    try clear c7b0
    try clear c8
    try clear c8b0
    obtain ⟨kq, x28_3, rfl, HA, HJ3, HB⟩ := hcut
    cases kq with
    | zero => exact absurd HA.out (by simp [flagstoneref40_Grow.j0])
    | succ kj3 =>
      have H := HA.out
      clear HA
      simp only [flagstoneref40_Grow.j0] at H
      by_cases c9 : x28_3 = true
      · subst c9
        have H1 : (some 0) = some r := by rw [if_pos rfl] at H; exact H
        clear H
        have H := H1
        clear H1
        obtain rfl := Option.some.inj H
        go_wp2
        go_ret
        exact ⟨by first | rfl | (simp [errW_none, errW_some] <;> rfl) | (simp [*, errW_none, errW_some] <;> rfl), by repeat (first | (with_reducible first | exact HB.out | apply below_alloc | apply pw_below_drewN | apply below_drew1) | exact HB.out)⟩
      · replace c9 := Bool.eq_false_iff.mpr c9
        subst c9
        have H1 : ((bits_Mul64.f (IntKind.u64.wrap (a0)) (IntKind.u64.wrap (a1))).bind fun bt114 => (if bt114.1 ≥ (IntKind.u64.wrap (a2)) then (some 2305843009213693952) else ((bits_Div64.f kj3 bt114.1 bt114.2 (IntKind.u64.wrap (a2))).bind fun bt116 => (some (wrap64 (mn bt116.1 2305843009213693952)))))) = some r := by rw [if_neg (show ¬ (false = true) by decide)] at H; exact H
        clear H
        have H := H1
        clear H1
        replace H := Option.bind_eq_some_iff.mp H
        obtain ⟨⟨t114, t115⟩, A100, H⟩ := H
        replace H : (if t114 ≥ (IntKind.u64.wrap (a2)) then (some 2305843009213693952) else ((bits_Div64.f kj3 t114 t115 (IntKind.u64.wrap (a2))).bind fun bt116 => (some (wrap64 (mn bt116.1 2305843009213693952))))) = some r := H
        have A10 := Aside0.mk A100
        clear A100
        by_cases c11 : t114 ≥ (IntKind.u64.wrap (a2))
        · rw [if_pos c11] at H
          have c11b0 : decide ((IntKind.u64.wrap (a2)) ≤ t114) = true := decide_eq_true c11
          clear c11
          obtain rfl := Option.some.inj H
          go_wp2_with (first | ((with_reducible refine gate_callee (f := 26) rfl ?_); refine goesL_ (some 34) rfl rfl Try.func26 (by kernel_rfl) rfl #[.int .u64 (IntKind.u64.wrap (a0)), .int .u64 (IntKind.u64.wrap (a1))] rfl (by (try simp only [List.map_toArray, List.map_cons, List.map_nil]); first | done | rfl | (simp only [List.length_drop, List.length_take]; rfl)) ?_; (with_reducible refine (bits_Mul64.calls (IntKind.u64.wrap (a0)) (IntKind.u64.wrap (a1)) t114 t115 _ A10.out).mono ?_); rintro e w' ⟨rfl, ⟨nd, rfl⟩⟩; refine ⟨_, rfl, ?_⟩))
          go_ret
          exact ⟨by first | rfl | (simp [errW_none, errW_some] <;> rfl) | (simp [*, errW_none, errW_some] <;> rfl), by repeat (first | (with_reducible first | exact HB.out | apply below_alloc | apply pw_below_drewN | apply below_drew1) | exact HB.out)⟩
        · rw [if_neg c11] at H
          have c11b0 : decide ((IntKind.u64.wrap (a2)) ≤ t114) = false := decide_eq_false c11
          clear c11
          replace H := Option.bind_eq_some_iff.mp H
          obtain ⟨⟨t116, t117⟩, A120, H⟩ := H
          replace H : (some (wrap64 (mn t116 2305843009213693952))) = some r := H
          have A12 := Aside0.mk A120
          clear A120
          obtain ⟨ji13, hji13⟩ : ∃ j_ : Int, (mn t116 2305843009213693952) = j_ := ⟨_, rfl⟩
          replace H : (some (wrap64 (ji13))) = some r := by first | (rw [hji13] at H; exact H) | (simp only [hji13] at H ⊢; exact H)
          (try rw [hji13] at A10)
          (try rw [hji13] at A12)
          (try (have hji13h : ji13 ≤ 2305843009213693952 := by (rw [← hji13]; unfold mn; (repeat' split) <;> omega)))
          (try (have hji13g : ji13 ≤ 64 := by omega))
          have hji13_ : (if 2305843009213693952 < t116 then 2305843009213693952 else t116) = ji13 := hji13
          obtain rfl := Option.some.inj H
          go_wp2_with (first | ((with_reducible refine gate_callee (f := 26) rfl ?_); refine goesL_ (some 34) rfl rfl Try.func26 (by kernel_rfl) rfl #[.int .u64 (IntKind.u64.wrap (a0)), .int .u64 (IntKind.u64.wrap (a1))] rfl (by (try simp only [List.map_toArray, List.map_cons, List.map_nil]); first | done | rfl | (simp only [List.length_drop, List.length_take]; rfl)) ?_; (with_reducible refine (bits_Mul64.calls (IntKind.u64.wrap (a0)) (IntKind.u64.wrap (a1)) t114 t115 _ A10.out).mono ?_); rintro e w' ⟨rfl, ⟨nd, rfl⟩⟩; refine ⟨_, rfl, ?_⟩) | ((with_reducible refine gate_callee (f := 27) rfl ?_); refine goesL_ (some 46) rfl rfl Try.func27 (by kernel_rfl) rfl #[.int .u64 t114, .int .u64 t115, .int .u64 (IntKind.u64.wrap (a2))] rfl (by (try simp only [List.map_toArray, List.map_cons, List.map_nil]); first | done | rfl | (simp only [List.length_drop, List.length_take]; rfl)) ?_; (with_reducible refine (bits_Div64.calls kj3 t114 t115 (IntKind.u64.wrap (a2)) t116 t117 _ A12.out).mono ?_); rintro e w' ⟨rfl, ⟨nd, rfl⟩⟩; refine ⟨_, rfl, ?_⟩))
          go_ret
          exact ⟨by first | rfl | (simp [errW_none, errW_some] <;> rfl) | (simp only [← hji13]; first | rfl | (simp [errW_none, errW_some] <;> rfl)) | (simp [*, errW_none, errW_some] <;> rfl), by repeat (first | (with_reducible first | exact HB.out | apply below_alloc | apply pw_below_drewN | apply below_drew1) | exact HB.out)⟩

end Go.Proofs.Ytafcnpfhihnmgaa.PA
