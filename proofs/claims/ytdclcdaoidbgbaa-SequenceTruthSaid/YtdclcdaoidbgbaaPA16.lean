-- Written by a program of this seat's session (wip/tools/ownprint.py, over the kit's printer) out of the translation: functions and their contracts.
import Derived.Test.YtdclcdaoidbgbaaPA0
import Derived.Test.YtdclcdaoidbgbaaPA4
import Derived.Test.YtdclcdaoidbgbaaH4
namespace Go.Proofs.Ytdclcdaoidbgbaa.PA
open Go.RowKit Go.Proofs.YtdclcdaoidbgbaaW.PrintWords Go.Proofs.YtdclcdaoidbgbaaW.PrintLast Go.Proofs.YtdclcdaoidbgbaaW.PrintMore
attribute [local go_sem] max2_int min2_int max_two min_two max_three min_three max_four min_four   -- for this text's walks alone
set_option linter.unusedVariables false
set_option linter.unusedSimpArgs false

/-! ### flagstonelaw41_SequenceMirrors: function 7 -/
def flagstonelaw41_SequenceMirrors.l0 : Nat → Int → List (S50) → List (S50) → Int → Option (Bool)
  | 0, _, _, _, _ => none
  | k + 1, x1, x5, x6, x7 => if x7 < (x5.length : Int) then (if 0 ≤ x7 then (if x6.length < 5864062014805 then (flagstonelaw41_SequenceMirrors.l0 k x1 x5 (x6 ++ [(⟨wrap64 (-((rd_T50 x5 x7).f0)), (rd_T50 x5 x7).f1, (rd_T50 x5 x7).f2⟩ : S50)]) (wrap64 (x7 + 1))) else (none)) else (none)) else ((sequence_Lower.f k x6 (wrap64 (1 + (Int.tmod (wrap64 (x1)) 999)))).bind fun t376 => ((sequence_Upper.f k x5 (wrap64 (1 + (Int.tmod (wrap64 (x1)) 999)))).bind fun t377 => (if t376 = (wrap64 (-t377)) then ((sequence_Upper.f k x6 (wrap64 (1 + (Int.tmod (wrap64 (x1)) 999)))).bind fun t378 => ((sequence_Lower.f k x5 (wrap64 (1 + (Int.tmod (wrap64 (x1)) 999)))).bind fun t379 => (some (t378 == (wrap64 (-t379)))))) else (some false))))
def flagstonelaw41_SequenceMirrors.f (k : Nat) (l0 : List Int) (a1 : Int) : Option (Bool) := (flagstonelaw41_awake.f k).bind fun t367 => (if t367 = true then (if (l0.length : Int) > 60 then (some true) else ((flagstonedata_Scores.f k l0).bind fun t368 => (flagstonelaw41_SequenceMirrors.l0 k a1 t368 ([] : List (S50)) 0))) else (some false))
theorem flagstonelaw41_SequenceMirrors.mono_l : ∀ k, (∀ y0 y1 y2 y3, LeO (flagstonelaw41_SequenceMirrors.l0 k y0 y1 y2 y3) (flagstonelaw41_SequenceMirrors.l0 (k + 1) y0 y1 y2 y3))
  | 0 => fun _ _ _ _ r h => by simp [flagstonelaw41_SequenceMirrors.l0] at h
  | k + 1 => by
    have ih0 := flagstonelaw41_SequenceMirrors.mono_l k
    · intro y0 y1 y2 y3
      unfold flagstonelaw41_SequenceMirrors.l0
      repeat' first
      | (with_reducible exact ih0 _ _ _ _)
      | (with_reducible exact flagstonedata_Scores.mono _ _)
      | (with_reducible exact flagstonelaw41_awake.mono _)
      | (with_reducible exact sequence_Lower.mono _ _ _)
      | (with_reducible exact sequence_Upper.mono _ _ _)
      | (with_reducible exact LeO.refl _)
      | (with_reducible exact LeO.none _)
      | (with_reducible refine LeO.ite ?_ ?_)
      | (with_reducible refine LeO.bind ?_ (fun _ => ?_))
      | exact ih0 _ _ _ _
      | exact flagstonedata_Scores.mono _ _
      | exact flagstonelaw41_awake.mono _
      | exact sequence_Lower.mono _ _ _
      | exact sequence_Upper.mono _ _ _
      | exact LeO.none _
      | refine LeO.ite ?_ ?_
      | refine LeO.bind ?_ (fun _ => ?_)
theorem flagstonelaw41_SequenceMirrors.mono : ∀ a0 a1 k, LeO (flagstonelaw41_SequenceMirrors.f k a0 a1) (flagstonelaw41_SequenceMirrors.f (k + 1) a0 a1) := by
  intro a0 a1 k
  have ih0 := flagstonelaw41_SequenceMirrors.mono_l k
  unfold flagstonelaw41_SequenceMirrors.f
  repeat' first
      | (with_reducible exact ih0 _ _ _ _)
      | (with_reducible exact flagstonedata_Scores.mono _ _)
      | (with_reducible exact flagstonelaw41_awake.mono _)
      | (with_reducible exact sequence_Lower.mono _ _ _)
      | (with_reducible exact sequence_Upper.mono _ _ _)
      | (with_reducible exact LeO.refl _)
      | (with_reducible exact LeO.none _)
      | (with_reducible refine LeO.ite ?_ ?_)
      | (with_reducible refine LeO.bind ?_ (fun _ => ?_))
      | exact ih0 _ _ _ _
      | exact flagstonedata_Scores.mono _ _
      | exact flagstonelaw41_awake.mono _
      | exact sequence_Lower.mono _ _ _
      | exact sequence_Upper.mono _ _ _
      | exact LeO.none _
      | refine LeO.ite ?_ ?_
      | refine LeO.bind ?_ (fun _ => ?_)
set_option maxHeartbeats 8000000 in
set_option maxRecDepth 100000 in
theorem flagstonelaw41_SequenceMirrors.calls (k : Nat) (A0 : Option Addr) (c0 : Nat) (l0 : List Int) (a1 : Int) (r : Bool) (w : World) (hr0 : Kd.C (Kd.int .u8) w A0 l0.length l0) (hc0 : l0.length ≤ c0) (h : flagstonelaw41_SequenceMirrors.f k l0 a1 = some r) :
    Calls Try.prog 7 #[.slice A0 l0.length c0, .int .u16 a1] w fun e w' => e = .returned (.bool r) ∧ Below w.heap.size w w' := by
  have hu50 := Try.underlying50
  have HR0 := Aside0.mk hr0
  have HC0 := Aside0.mk hc0
  clear hr0 hc0
  have HB := Aside0.mk (Below.refl w.heap.size w)
  have H : ((flagstonelaw41_awake.f k).bind fun t367 => (if t367 = true then (if (l0.length : Int) > 60 then (some true) else ((flagstonedata_Scores.f k l0).bind fun t368 => (flagstonelaw41_SequenceMirrors.l0 k a1 t368 ([] : List (S50)) 0))) else (some false))) = some r := h
  clear h
  replace H := Option.bind_eq_some_iff.mp H
  obtain ⟨t367, A30, H⟩ := H
  replace H : (if t367 = true then (if (l0.length : Int) > 60 then (some true) else ((flagstonedata_Scores.f k l0).bind fun t368 => (flagstonelaw41_SequenceMirrors.l0 k a1 t368 ([] : List (S50)) 0))) else (some false)) = some r := H
  have A3 := Aside0.mk A30
  clear A30
  by_cases c4 : t367 = true
  · subst c4
    have H1 : (if (l0.length : Int) > 60 then (some true) else ((flagstonedata_Scores.f k l0).bind fun t368 => (flagstonelaw41_SequenceMirrors.l0 k a1 t368 ([] : List (S50)) 0))) = some r := by rw [if_pos rfl] at H; exact H
    clear H
    have H := H1
    clear H1
    by_cases c5 : (l0.length : Int) > 60
    · rw [if_pos c5] at H
      have c5b0 : decide (60 < (l0.length : Int)) = true := decide_eq_true c5
      have c5b1 : decide (60 < l0.length) = true := decide_eq_true (by omega)
      clear c5
      obtain rfl := Option.some.inj H
      go_enter Try.func7, Try.ntmps7
      go_wp2_with (first | ((with_reducible refine gate_callee (f := 10) rfl ?_); refine goesL_ (some 10) rfl rfl Try.func10 (by kernel_rfl) rfl #[] rfl (by (try simp only [List.map_toArray, List.map_cons, List.map_nil]); first | done | rfl | (simp only [List.length_drop, List.length_take]; rfl)) ?_; (with_reducible refine (flagstonelaw41_awake.calls k  true _ A3.out).mono ?_); rintro e w6 ⟨rfl, hb⟩; refine ⟨_, rfl, ?_⟩; have n0_ := Aside0.mk (below_step (by repeat (first | (with_reducible first | exact HB.out | apply below_alloc | apply pw_below_drewN | apply below_drew1) | exact HB.out)) hb); clear HB; have HB := n0_; clear n0_; (try clear hb); (try clear hb2); (try clear hk); (try clear hi)))
      go_ret
      exact ⟨by first | rfl | (simp [errW_none, errW_some] <;> rfl) | (simp [*, errW_none, errW_some] <;> rfl), by repeat (first | (with_reducible first | exact HB.out | apply below_alloc | apply pw_below_drewN | apply below_drew1) | exact HB.out)⟩
    · rw [if_neg c5] at H
      have c5b0 : decide (60 < (l0.length : Int)) = false := decide_eq_false c5
      have c5b1 : decide (60 < l0.length) = false := decide_eq_false (by omega)
      clear c5
      replace H := Option.bind_eq_some_iff.mp H
      obtain ⟨t368, A70, H⟩ := H
      replace H : (flagstonelaw41_SequenceMirrors.l0 k a1 t368 ([] : List (S50)) 0) = some r := H
      have A7 := Aside0.mk A70
      clear A70
      have H' := Aside0.mk H
      clear H
      go_enter Try.func7, Try.ntmps7
      go_wp2_with (first | ((with_reducible refine gate_callee (f := 10) rfl ?_); refine goesL_ (some 10) rfl rfl Try.func10 (by kernel_rfl) rfl #[] rfl (by (try simp only [List.map_toArray, List.map_cons, List.map_nil]); first | done | rfl | (simp only [List.length_drop, List.length_take]; rfl)) ?_; (with_reducible refine (flagstonelaw41_awake.calls k  true _ A3.out).mono ?_); rintro e w8 ⟨rfl, hb⟩; refine ⟨_, rfl, ?_⟩; have n0_ := Aside0.mk (below_step (by repeat (first | (with_reducible first | exact HB.out | apply below_alloc | apply pw_below_drewN | apply below_drew1) | exact HB.out)) hb); clear HB; have HB := n0_; clear n0_; (try clear hb); (try clear hb2); (try clear hk); (try clear hi)) | ((with_reducible refine gate_callee (f := 11) rfl ?_); refine goesL_ (some 16) rfl rfl Try.func11 (by kernel_rfl) rfl #[.slice A0 l0.length c0] rfl (by (try simp only [List.map_toArray, List.map_cons, List.map_nil]); first | done | rfl | (simp only [List.length_drop, List.length_take]; rfl)) ?_; (with_reducible refine (flagstonedata_Scores.calls k _ _ l0 t368 _ ?side1 ?side2 A7.out).mono ?_); (case side1 => repeat (first | exact (Kd.C_below HR0.out HB.out) | (with_reducible refine Kd.C_alloc ?_ _) | (with_reducible refine Kd.C_drewN ?_ _) | (with_reducible refine Kd.C_drew ?_))); (case side2 => exact HC0.out); rintro e w9 ⟨v369, rfl, ho0, hb⟩; refine ⟨_, rfl, ?_⟩; have n0_ := Aside0.mk (Kd.R_lower ho0 (below_size (by repeat (first | (with_reducible first | exact HB.out | apply below_alloc | apply pw_below_drewN | apply below_drew1) | exact HB.out)))); have n1_ := Aside0.mk (below_step (by repeat (first | (with_reducible first | exact HB.out | apply below_alloc | apply pw_below_drewN | apply below_drew1) | exact HB.out)) hb); clear HB; have HO370 := n0_; have HB := n1_; clear n0_ n1_; (try clear hb); (try clear hb2); (try clear hk); (try clear hi); (try clear ho0)))
      go_loopg [6, 7] k (fun kq v6 v7 w' => ∃ (x6_1 : List (S50)) (x7_1 : Int), v7 = .int .i64 x7_1 ∧ Aside0 (flagstonelaw41_SequenceMirrors.l0 kq a1 t368 x6_1 x7_1 = some r) ∧ Aside0 (kq ≤ k) ∧ Aside0 (Kd.R k50 50 w' w.heap.size (fun k_ => some k_ ≠ (v6 : Value).ownBlock) v369 t368) ∧ Aside0 (Kd.R k50 50 w' w.heap.size (fun k_ => some k_ ≠ (v369 : Value).ownBlock) v6 x6_1) ∧ Aside0 (Below w.heap.size w w'))
      case atStart => exact ⟨(([] : List (S50))), (0), (by first | rfl | (simp; done) | (simp [*]; done) | exact congrArg (Value.int _) (by unfold wrap64; omega)), H', ⟨Nat.le_refl _⟩, ⟨by (with_reducible repeat (first | apply Kd.R_alloc | apply Kd.R_drewN | apply Kd.R_drew)); exact Kd.R_mono HO370.out (fun _ hk => (by simp [Value.ownBlock]))⟩, ⟨by first | exact Kd.R_nil _ _ _ _ _ | exact Kd.N_nil _ _ _ _ _ | exact Kd.V_nil _ _ _ _ _ | exact Kd.Q_nil _ _ _ _ _ | exact Kd.S_nil _ _ _ _ _⟩, ⟨by repeat (first | (with_reducible first | exact HB.out | apply below_alloc | apply pw_below_drewN | apply below_drew1) | exact HB.out)⟩⟩
      case round =>
        clear H'
        try clear c1
        try clear p2
        try clear c4
        try clear c5
        try clear c5b0
        try clear c5b1
        try clear p6
        try clear c7
        obtain ⟨x6_1, x7_1, rfl, HA, HK1, HO_5, HO_6, HB⟩ := hrel
        cases gk with
        | zero => exact absurd HA.out (by simp [flagstonelaw41_SequenceMirrors.l0])
        | succ k1 =>
          have H := HA.out
          clear HA
          simp only [flagstonelaw41_SequenceMirrors.l0] at H
          by_cases c10 : x7_1 < (t368.length : Int)
          · rw [if_pos c10] at H
            have c10b0 : decide (x7_1 < (t368.length : Int)) = true := decide_eq_true c10
            clear c10
            by_cases c11 : 0 ≤ x7_1
            · rw [if_pos c11] at H
              have c11b0 : decide (0 ≤ x7_1) = true := decide_eq_true c11
              clear c11
              by_cases c12 : x6_1.length < 5864062014805
              · rw [if_pos c12] at H
                have LMc12 := Aside0.mk c12
                clear c12
                obtain ⟨y373, hy373⟩ : ∃ y_ : List (S50), y_ = (x6_1 ++ [(⟨wrap64 (-((rd_T50 t368 x7_1).f0)), (rd_T50 t368 x7_1).f1, (rd_T50 t368 x7_1).f2⟩ : S50)]) := ⟨_, rfl⟩
                replace H : (flagstonelaw41_SequenceMirrors.l0 k1 a1 t368 y373 (wrap64 (x7_1 + 1))) = some r := by first | (rw [hy373]; with_reducible exact H) | (have H2_ := (Option.bind_some _ _).symm.trans H; rw [hy373]; with_reducible exact H2_) | (have H2_ := (Option.bind_some _ _).symm.trans H; with_reducible exact H2_) | with_reducible exact H | (rw [hy373]; exact H) | exact H
                have Ny373 := Aside0.mk hy373
                clear hy373
                have H' := Aside0.mk H
                clear H
                obtain ⟨Ao13, co13, eo13⟩ := Kd.R_slice HO_5.out
                subst eo13
                have p371 : 0 ≤ (x7_1 : Int) := of_decide_eq_true (by first | (with_reducible assumption) | assumption)
                have q371 : x7_1 < (t368.length : Int) := of_decide_eq_true (by first | (with_reducible assumption) | assumption)
                obtain ⟨ad371, e371, hx371_0, hx371_1, hx371_2⟩ := at_T50 (Kd.R_reads' HO_5.out).2.2 x7_1 p371 q371
                cases e371
                replace p371 := eq_true p371
                replace q371 := eq_true q371
                go_wp2_with (first | ((with_reducible refine gate_dst (N := 8) rfl ?_); refine box_event ?hg (N := 8) ?hd (cs := #[.int .i64 0, .int .i64 0, .int .i64 0]) (t := 50) ?hr ?_; (case hd => rfl); (case hg => rfl); (case hr => first | (go_simp; done) | (go_simp; rfl)); intro gb372 hg w14 hbox hb; have n0_ := Aside0.mk (Kd.R_below (Kd.R_elderB (by (with_reducible repeat (first | apply Kd.R_alloc | apply Kd.R_drewN | apply Kd.R_drew)); exact HO_5.out) gb372 (Nat.le_of_eq hg.symm)) hb); have n1_ := Aside0.mk (Kd.R_below (Kd.R_elderB (by (with_reducible repeat (first | apply Kd.R_alloc | apply Kd.R_drewN | apply Kd.R_drew)); exact HO_6.out) gb372 (Nat.le_of_eq hg.symm)) hb); have n2_ := Aside0.mk (below_step (by repeat (first | (with_reducible first | exact HB.out | apply below_alloc | apply pw_below_drewN | apply below_drew1) | exact HB.out)) hb); have n3_ := Aside0.mk (hbox); have n4_ := Aside0.mk ((by rw [hg]; exact (below_size (by repeat (first | (with_reducible first | exact HB.out | apply below_alloc | apply pw_below_drewN | apply below_drew1) | exact HB.out))) : w.heap.size ≤ gb372)); have n5_ := Aside0.mk ((by rw [hg]; exact (below_size (by repeat (first | (with_reducible first | exact HB.out | apply below_alloc | apply pw_below_drewN | apply below_drew1) | exact HB.out))) : w.heap.size ≤ gb372)); clear HO_5; clear HO_6; clear HB; have HO_5 := n0_; have HO_6 := n1_; have HB := n2_; have BK372 := n3_; have GW372 := n4_; have GE372 := n5_; clear n0_ n1_ n2_ n3_ n4_ n5_; clear hb hbox hg; have hcz15_0 : w14.cell? ⟨gb372, 0, none⟩ = some (.int .i64 0) := (blk_cell BK372.out 0).trans rfl; have hcz15_1 : w14.cell? ⟨gb372, 1, none⟩ = some (.int .i64 0) := (blk_cell BK372.out 1).trans rfl; have hcz15_2 : w14.cell? ⟨gb372, 2, none⟩ = some (.int .i64 0) := (blk_cell BK372.out 2).trans rfl; have hfz15_0 := blk_frozen BK372.out 0; have hfz15_1 := blk_frozen BK372.out 1; have hfz15_2 := blk_frozen BK372.out 2) | ((with_reducible refine gate_builtin (b := .append) (xs := #[.tmp 31, .tmp 33]) rfl ?_); at_builtin; refine Kd.R_append k50 (w0 := w) w.heap.size rfl (.tmp 31) (.tmp 33) 29 50 (.agg #[(.int .i64 0), (.int .i64 0), (.int .i64 0)]) 24 rfl Try.underlying29 info50 rfl (by decide) (by omega) u6 x6_1 (⟨wrap64 (-((rd_T50 t368 x7_1).f0)), (rd_T50 t368 x7_1).f1, (rd_T50 t368 x7_1).f2⟩ : S50) [.int .i64 (wrap64 (-((rd_T50 t368 x7_1).f0))), .int .i64 ((rd_T50 t368 x7_1).f1), .int .i64 ((rd_T50 t368 x7_1).f2)] (fun k_ => some k_ ≠ (.slice (some ad371) t368.length co13 : Value).ownBlock ∧ k_ ≠ gb372) (fun _ => False) rfl (by first | (go_simp; done) | (go_simp; rfl)) ?aP (fun _ hk => hk.elim) ?aF ?aO ?aB ?aS ?aL ?_; (case aP => exact k50_mkM _ _ _ (⟨wrap64 (-((rd_T50 t368 x7_1).f0)), (rd_T50 t368 x7_1).f1, (rd_T50 t368 x7_1).f2⟩ : S50)); (case aB => exact (by repeat (first | (with_reducible first | exact HB.out | apply below_alloc | apply pw_below_drewN | apply below_drew1 | refine below_set ?_ GE372.out) | exact HB.out))); (case aF => exact (fun k_ hk => ⟨Kd.fresh' (Kd.R_lt (by (with_reducible repeat (first | apply Kd.R_alloc | apply Kd.R_drewN | apply Kd.R_drew)); exact (Kd.R_mono (Kd.R_far (p := ⟨gb372, 0, none⟩) (Kd.R_far (p := ⟨gb372, 2, none⟩) (Kd.R_far (p := ⟨gb372, 1, none⟩) (Kd.R_far (p := ⟨gb372, 0, none⟩) (Kd.R_mono HO_5.out (fun k_ hk => (⟨hk, hk.2⟩ : _ ∧ k_ ≠ gb372))) (fun _ hk => hk.2) (.int .i64 ((rd_T50 t368 x7_1).f0))) (fun _ hk => hk.2) (.int .i64 ((rd_T50 t368 x7_1).f1))) (fun _ hk => hk.2) (.int .i64 ((rd_T50 t368 x7_1).f2))) (fun _ hk => hk.2) (.int .i64 (wrap64 (-((rd_T50 t368 x7_1).f0))))) (fun _ h_ => h_.1)))) k_ hk, Kd.freshB (g := gb372) (o := .cells #[.int .i64 (wrap64 (-((rd_T50 t368 x7_1).f0))), .int .i64 ((rd_T50 t368 x7_1).f1), .int .i64 ((rd_T50 t368 x7_1).f2)] 50 (0, 0)) (by (with_reducible repeat (first | refine blk_drewN ?_ _ | refine blk_drew ?_ | refine blk_alloc ?_ _)); refine blk_put (cs := #[.int .i64 ((rd_T50 t368 x7_1).f0), .int .i64 ((rd_T50 t368 x7_1).f1), .int .i64 ((rd_T50 t368 x7_1).f2)]) ?_ 0 _ rfl; (with_reducible repeat (first | refine blk_drewN ?_ _ | refine blk_drew ?_ | refine blk_alloc ?_ _)); refine blk_put (cs := #[.int .i64 ((rd_T50 t368 x7_1).f0), .int .i64 ((rd_T50 t368 x7_1).f1), .int .i64 0]) ?_ 2 _ rfl; (with_reducible repeat (first | refine blk_drewN ?_ _ | refine blk_drew ?_ | refine blk_alloc ?_ _)); refine blk_put (cs := #[.int .i64 ((rd_T50 t368 x7_1).f0), .int .i64 0, .int .i64 0]) ?_ 1 _ rfl; (with_reducible repeat (first | refine blk_drewN ?_ _ | refine blk_drew ?_ | refine blk_alloc ?_ _)); refine blk_put (cs := #[.int .i64 0, .int .i64 0, .int .i64 0]) ?_ 0 _ rfl; (with_reducible repeat (first | refine blk_drewN ?_ _ | refine blk_drew ?_ | refine blk_alloc ?_ _)); exact BK372.out) k_ hk⟩)); (case aO => exact (by (with_reducible repeat (first | apply Kd.R_alloc | apply Kd.R_drewN | apply Kd.R_drew)); exact Kd.R_mono (Kd.R_far (p := ⟨gb372, 0, none⟩) (Kd.R_far (p := ⟨gb372, 2, none⟩) (Kd.R_far (p := ⟨gb372, 1, none⟩) (Kd.R_far (p := ⟨gb372, 0, none⟩) (Kd.R_mono HO_6.out (fun k_ hk => (⟨hk, hk.2⟩ : _ ∧ k_ ≠ gb372))) (fun _ hk => hk.2) (.int .i64 ((rd_T50 t368 x7_1).f0))) (fun _ hk => hk.2) (.int .i64 ((rd_T50 t368 x7_1).f1))) (fun _ hk => hk.2) (.int .i64 ((rd_T50 t368 x7_1).f2))) (fun _ hk => hk.2) (.int .i64 (wrap64 (-((rd_T50 t368 x7_1).f0))))) (fun _ hk => ⟨hk.1.1, hk.1.2⟩))); (case aS => exact (below_size (by repeat (first | (with_reducible first | exact HB.out | apply below_alloc | apply pw_below_drewN | apply below_drew1 | refine below_set ?_ GE372.out) | exact HB.out)))); (case aL => have := LMc12.out; omega); intro v374 w16 ho hb hg hat; rw [← Ny373.out] at ho; have n0_ := Aside0.mk (Kd.R_after (ok := (fun k_ => k_ ≠ gb372)) (by (with_reducible repeat (first | apply Kd.R_alloc | apply Kd.R_drewN | apply Kd.R_drew)); exact Kd.R_mono (Kd.R_far (p := ⟨gb372, 0, none⟩) (Kd.R_far (p := ⟨gb372, 2, none⟩) (Kd.R_far (p := ⟨gb372, 1, none⟩) (Kd.R_far (p := ⟨gb372, 0, none⟩) (Kd.R_mono HO_5.out (fun k_ hk => (⟨hk, hk.2⟩ : _ ∧ k_ ≠ gb372))) (fun _ hk => hk.2) (.int .i64 ((rd_T50 t368 x7_1).f0))) (fun _ hk => hk.2) (.int .i64 ((rd_T50 t368 x7_1).f1))) (fun _ hk => hk.2) (.int .i64 ((rd_T50 t368 x7_1).f2))) (fun _ hk => hk.2) (.int .i64 (wrap64 (-((rd_T50 t368 x7_1).f0))))) (fun _ hk => ⟨hk.1.2, hk.1.1⟩)) hg hat); have n1_ := Aside0.mk (blk_grown (g := gb372) (o := .cells #[.int .i64 (wrap64 (-((rd_T50 t368 x7_1).f0))), .int .i64 ((rd_T50 t368 x7_1).f1), .int .i64 ((rd_T50 t368 x7_1).f2)] 50 (0, 0)) (by (with_reducible repeat (first | refine blk_drewN ?_ _ | refine blk_drew ?_ | refine blk_alloc ?_ _)); refine blk_put (cs := #[.int .i64 ((rd_T50 t368 x7_1).f0), .int .i64 ((rd_T50 t368 x7_1).f1), .int .i64 ((rd_T50 t368 x7_1).f2)]) ?_ 0 _ rfl; (with_reducible repeat (first | refine blk_drewN ?_ _ | refine blk_drew ?_ | refine blk_alloc ?_ _)); refine blk_put (cs := #[.int .i64 ((rd_T50 t368 x7_1).f0), .int .i64 ((rd_T50 t368 x7_1).f1), .int .i64 0]) ?_ 2 _ rfl; (with_reducible repeat (first | refine blk_drewN ?_ _ | refine blk_drew ?_ | refine blk_alloc ?_ _)); refine blk_put (cs := #[.int .i64 ((rd_T50 t368 x7_1).f0), .int .i64 0, .int .i64 0]) ?_ 1 _ rfl; (with_reducible repeat (first | refine blk_drewN ?_ _ | refine blk_drew ?_ | refine blk_alloc ?_ _)); refine blk_put (cs := #[.int .i64 0, .int .i64 0, .int .i64 0]) ?_ 0 _ rfl; (with_reducible repeat (first | refine blk_drewN ?_ _ | refine blk_drew ?_ | refine blk_alloc ?_ _)); exact BK372.out) hg (Kd.R_away HO_6.out (fun _ hk => hk.2))); have n2_ := Aside0.mk (hb); have n3_ := Aside0.mk (ho); clear HO_5; clear BK372; clear HB; clear HO_6; have HO_5 := n0_; have BK372 := n1_; have HB := n2_; have HO375 := n3_; clear n0_ n1_ n2_ n3_; clear ho hb hg hat))
                go_roundg k1
                case measure => have := HK1.out; omega
                case rel => exact ⟨(y373), (wrap64 (x7_1 + 1)), (by first | rfl | (simp; done) | (simp [*]; done) | exact congrArg (Value.int _) (by unfold wrap64; omega)), H', ⟨by have := HK1.out; omega⟩, ⟨by (with_reducible repeat (first | apply Kd.R_alloc | apply Kd.R_drewN | apply Kd.R_drew)); exact Kd.R_mono HO_5.out (fun _ hk => hk.2)⟩, ⟨by (with_reducible repeat (first | apply Kd.R_alloc | apply Kd.R_drewN | apply Kd.R_drew)); exact Kd.R_mono HO375.out (fun _ hk => hk.1)⟩, ⟨by repeat (first | (with_reducible first | exact HB.out | apply below_alloc | apply pw_below_drewN | apply below_drew1 | refine below_set ?_ GE372.out) | exact HB.out)⟩⟩
              · rw [if_neg c12] at H
                exact absurd H (by simp)
            · rw [if_neg c11] at H
              exact absurd H (by simp)
          · rw [if_neg c10] at H
            have c10b0 : decide (x7_1 < (t368.length : Int)) = false := decide_eq_false c10
            clear c10
            replace H := Option.bind_eq_some_iff.mp H
            obtain ⟨t376, A170, H⟩ := H
            replace H : ((sequence_Upper.f k1 t368 (wrap64 (1 + (Int.tmod (wrap64 (a1)) 999)))).bind fun t377 => (if t376 = (wrap64 (-t377)) then ((sequence_Upper.f k1 x6_1 (wrap64 (1 + (Int.tmod (wrap64 (a1)) 999)))).bind fun t378 => ((sequence_Lower.f k1 t368 (wrap64 (1 + (Int.tmod (wrap64 (a1)) 999)))).bind fun t379 => (some (t378 == (wrap64 (-t379)))))) else (some false))) = some r := H
            have A17 := Aside0.mk A170
            clear A170
            replace H := Option.bind_eq_some_iff.mp H
            obtain ⟨t377, A180, H⟩ := H
            replace H : (if t376 = (wrap64 (-t377)) then ((sequence_Upper.f k1 x6_1 (wrap64 (1 + (Int.tmod (wrap64 (a1)) 999)))).bind fun t378 => ((sequence_Lower.f k1 t368 (wrap64 (1 + (Int.tmod (wrap64 (a1)) 999)))).bind fun t379 => (some (t378 == (wrap64 (-t379)))))) else (some false)) = some r := H
            have A18 := Aside0.mk A180
            clear A180
            by_cases c19 : t376 = (wrap64 (-t377))
            · rw [if_pos c19] at H
              have c19b0 : (t376 == (wrap64 (-t377))) = true := beq_iff_eq.mpr c19
              have c19b1 : (t376 != (wrap64 (-t377))) = false := bne_eq_false_iff_eq.mpr c19
              clear c19
              replace H := Option.bind_eq_some_iff.mp H
              obtain ⟨t378, A200, H⟩ := H
              replace H : ((sequence_Lower.f k1 t368 (wrap64 (1 + (Int.tmod (wrap64 (a1)) 999)))).bind fun t379 => (some (t378 == (wrap64 (-t379))))) = some r := H
              have A20 := Aside0.mk A200
              clear A200
              replace H := Option.bind_eq_some_iff.mp H
              obtain ⟨t379, A210, H⟩ := H
              replace H : (some (t378 == (wrap64 (-t379)))) = some r := H
              have A21 := Aside0.mk A210
              clear A210
              obtain rfl := Option.some.inj H
              obtain ⟨Ao22, co22, eo22⟩ := Kd.R_slice HO_5.out
              subst eo22
              obtain ⟨Ao23, co23, eo23⟩ := Kd.R_slice HO_6.out
              subst eo23
              go_wp2_with (first | ((with_reducible refine gate_callee (f := 18) rfl ?_); refine goesL_ (some 41) rfl rfl Try.func18 (by kernel_rfl) rfl #[.slice Ao23 x6_1.length co23, .int .i64 (wrap64 (1 + (Int.tmod (wrap64 (a1)) 999)))] rfl (by (try simp only [List.map_toArray, List.map_cons, List.map_nil]); first | done | rfl | (simp only [List.length_drop, List.length_take]; rfl)) ?_; (with_reducible refine (sequence_Lower.calls k1 _ _ x6_1 (wrap64 (1 + (Int.tmod (wrap64 (a1)) 999))) t376 _ ?side1 ?side2 A17.out).mono ?_); (case side1 => repeat (first | exact (Kd.R_reads' HO_6.out).2.2 | (with_reducible refine Kd.C_alloc ?_ _) | (with_reducible refine Kd.C_drewN ?_ _) | (with_reducible refine Kd.C_drew ?_))); (case side2 => exact (Kd.R_reads' HO_6.out).2.1); rintro e w24 ⟨rfl, hb⟩; refine ⟨_, rfl, ?_⟩; have n0_ := Aside0.mk (Kd.R_below (by (with_reducible repeat (first | apply Kd.R_alloc | apply Kd.R_drewN | apply Kd.R_drew)); exact HO_5.out) hb); have n1_ := Aside0.mk (Kd.R_below (by (with_reducible repeat (first | apply Kd.R_alloc | apply Kd.R_drewN | apply Kd.R_drew)); exact HO_6.out) hb); have n2_ := Aside0.mk (below_step (by repeat (first | (with_reducible first | exact HB.out | apply below_alloc | apply pw_below_drewN | apply below_drew1) | exact HB.out)) hb); clear HO_5; clear HO_6; clear HB; have HO_5 := n0_; have HO_6 := n1_; have HB := n2_; clear n0_ n1_ n2_; (try clear hb); (try clear hb2); (try clear hk); (try clear hi)) | ((with_reducible refine gate_callee (f := 20) rfl ?_); refine goesL_ (some 44) rfl rfl Try.func20 (by kernel_rfl) rfl #[.slice Ao22 t368.length co22, .int .i64 (wrap64 (1 + (Int.tmod (wrap64 (a1)) 999)))] rfl (by (try simp only [List.map_toArray, List.map_cons, List.map_nil]); first | done | rfl | (simp only [List.length_drop, List.length_take]; rfl)) ?_; (with_reducible refine (sequence_Upper.calls k1 _ _ t368 (wrap64 (1 + (Int.tmod (wrap64 (a1)) 999))) t377 _ ?side1 ?side2 A18.out).mono ?_); (case side1 => repeat (first | exact (Kd.R_reads' HO_5.out).2.2 | (with_reducible refine Kd.C_alloc ?_ _) | (with_reducible refine Kd.C_drewN ?_ _) | (with_reducible refine Kd.C_drew ?_))); (case side2 => exact (Kd.R_reads' HO_5.out).2.1); rintro e w25 ⟨rfl, hb⟩; refine ⟨_, rfl, ?_⟩; have n0_ := Aside0.mk (Kd.R_below (by (with_reducible repeat (first | apply Kd.R_alloc | apply Kd.R_drewN | apply Kd.R_drew)); exact HO_5.out) hb); have n1_ := Aside0.mk (Kd.R_below (by (with_reducible repeat (first | apply Kd.R_alloc | apply Kd.R_drewN | apply Kd.R_drew)); exact HO_6.out) hb); have n2_ := Aside0.mk (below_step (by repeat (first | (with_reducible first | exact HB.out | apply below_alloc | apply pw_below_drewN | apply below_drew1) | exact HB.out)) hb); clear HO_5; clear HO_6; clear HB; have HO_5 := n0_; have HO_6 := n1_; have HB := n2_; clear n0_ n1_ n2_; (try clear hb); (try clear hb2); (try clear hk); (try clear hi)) | (go_at_call 20; (with_reducible refine (sequence_Upper.calls k1 _ _ x6_1 (wrap64 (1 + (Int.tmod (wrap64 (a1)) 999))) t378 _ ?side1 ?side2 A20.out).mono ?_); (case side1 => repeat (first | exact (Kd.R_reads' HO_6.out).2.2 | (with_reducible refine Kd.C_alloc ?_ _) | (with_reducible refine Kd.C_drewN ?_ _) | (with_reducible refine Kd.C_drew ?_))); (case side2 => exact (Kd.R_reads' HO_6.out).2.1); rintro e w26 ⟨rfl, hb⟩; have n0_ := Aside0.mk (Kd.R_below (by (with_reducible repeat (first | apply Kd.R_alloc | apply Kd.R_drewN | apply Kd.R_drew)); exact HO_5.out) hb); have n1_ := Aside0.mk (Kd.R_below (by (with_reducible repeat (first | apply Kd.R_alloc | apply Kd.R_drewN | apply Kd.R_drew)); exact HO_6.out) hb); have n2_ := Aside0.mk (below_step (by repeat (first | (with_reducible first | exact HB.out | apply below_alloc | apply pw_below_drewN | apply below_drew1) | exact HB.out)) hb); clear HO_5; clear HO_6; clear HB; have HO_5 := n0_; have HO_6 := n1_; have HB := n2_; clear n0_ n1_ n2_; (try clear hb); (try clear hb2); (try clear hk); (try clear hi)) | (go_at_call 18; (with_reducible refine (sequence_Lower.calls k1 _ _ t368 (wrap64 (1 + (Int.tmod (wrap64 (a1)) 999))) t379 _ ?side1 ?side2 A21.out).mono ?_); (case side1 => repeat (first | exact (Kd.R_reads' HO_5.out).2.2 | (with_reducible refine Kd.C_alloc ?_ _) | (with_reducible refine Kd.C_drewN ?_ _) | (with_reducible refine Kd.C_drew ?_))); (case side2 => exact (Kd.R_reads' HO_5.out).2.1); rintro e w27 ⟨rfl, hb⟩; have n0_ := Aside0.mk (Kd.R_below (by (with_reducible repeat (first | apply Kd.R_alloc | apply Kd.R_drewN | apply Kd.R_drew)); exact HO_5.out) hb); have n1_ := Aside0.mk (Kd.R_below (by (with_reducible repeat (first | apply Kd.R_alloc | apply Kd.R_drewN | apply Kd.R_drew)); exact HO_6.out) hb); have n2_ := Aside0.mk (below_step (by repeat (first | (with_reducible first | exact HB.out | apply below_alloc | apply pw_below_drewN | apply below_drew1) | exact HB.out)) hb); clear HO_5; clear HO_6; clear HB; have HO_5 := n0_; have HO_6 := n1_; have HB := n2_; clear n0_ n1_ n2_; (try clear hb); (try clear hb2); (try clear hk); (try clear hi)))
              go_ret
              exact ⟨by first | rfl | (simp [errW_none, errW_some] <;> rfl) | (simp [*, errW_none, errW_some] <;> rfl), by repeat (first | (with_reducible first | exact HB.out | apply below_alloc | apply pw_below_drewN | apply below_drew1) | exact HB.out)⟩
            · rw [if_neg c19] at H
              have c19b0 : (t376 == (wrap64 (-t377))) = false := beq_eq_false_iff_ne.mpr c19
              have c19b1 : (t376 != (wrap64 (-t377))) = true := bne_iff_ne.mpr c19
              obtain rfl := Option.some.inj H
              obtain ⟨Ao28, co28, eo28⟩ := Kd.R_slice HO_5.out
              subst eo28
              obtain ⟨Ao29, co29, eo29⟩ := Kd.R_slice HO_6.out
              subst eo29
              go_wp2_with (first | ((with_reducible refine gate_callee (f := 18) rfl ?_); refine goesL_ (some 41) rfl rfl Try.func18 (by kernel_rfl) rfl #[.slice Ao29 x6_1.length co29, .int .i64 (wrap64 (1 + (Int.tmod (wrap64 (a1)) 999)))] rfl (by (try simp only [List.map_toArray, List.map_cons, List.map_nil]); first | done | rfl | (simp only [List.length_drop, List.length_take]; rfl)) ?_; (with_reducible refine (sequence_Lower.calls k1 _ _ x6_1 (wrap64 (1 + (Int.tmod (wrap64 (a1)) 999))) t376 _ ?side1 ?side2 A17.out).mono ?_); (case side1 => repeat (first | exact (Kd.R_reads' HO_6.out).2.2 | (with_reducible refine Kd.C_alloc ?_ _) | (with_reducible refine Kd.C_drewN ?_ _) | (with_reducible refine Kd.C_drew ?_))); (case side2 => exact (Kd.R_reads' HO_6.out).2.1); rintro e w30 ⟨rfl, hb⟩; refine ⟨_, rfl, ?_⟩; have n0_ := Aside0.mk (Kd.R_below (by (with_reducible repeat (first | apply Kd.R_alloc | apply Kd.R_drewN | apply Kd.R_drew)); exact HO_5.out) hb); have n1_ := Aside0.mk (Kd.R_below (by (with_reducible repeat (first | apply Kd.R_alloc | apply Kd.R_drewN | apply Kd.R_drew)); exact HO_6.out) hb); have n2_ := Aside0.mk (below_step (by repeat (first | (with_reducible first | exact HB.out | apply below_alloc | apply pw_below_drewN | apply below_drew1) | exact HB.out)) hb); clear HO_5; clear HO_6; clear HB; have HO_5 := n0_; have HO_6 := n1_; have HB := n2_; clear n0_ n1_ n2_; (try clear hb); (try clear hb2); (try clear hk); (try clear hi)) | ((with_reducible refine gate_callee (f := 20) rfl ?_); refine goesL_ (some 44) rfl rfl Try.func20 (by kernel_rfl) rfl #[.slice Ao28 t368.length co28, .int .i64 (wrap64 (1 + (Int.tmod (wrap64 (a1)) 999)))] rfl (by (try simp only [List.map_toArray, List.map_cons, List.map_nil]); first | done | rfl | (simp only [List.length_drop, List.length_take]; rfl)) ?_; (with_reducible refine (sequence_Upper.calls k1 _ _ t368 (wrap64 (1 + (Int.tmod (wrap64 (a1)) 999))) t377 _ ?side1 ?side2 A18.out).mono ?_); (case side1 => repeat (first | exact (Kd.R_reads' HO_5.out).2.2 | (with_reducible refine Kd.C_alloc ?_ _) | (with_reducible refine Kd.C_drewN ?_ _) | (with_reducible refine Kd.C_drew ?_))); (case side2 => exact (Kd.R_reads' HO_5.out).2.1); rintro e w31 ⟨rfl, hb⟩; refine ⟨_, rfl, ?_⟩; have n0_ := Aside0.mk (Kd.R_below (by (with_reducible repeat (first | apply Kd.R_alloc | apply Kd.R_drewN | apply Kd.R_drew)); exact HO_5.out) hb); have n1_ := Aside0.mk (Kd.R_below (by (with_reducible repeat (first | apply Kd.R_alloc | apply Kd.R_drewN | apply Kd.R_drew)); exact HO_6.out) hb); have n2_ := Aside0.mk (below_step (by repeat (first | (with_reducible first | exact HB.out | apply below_alloc | apply pw_below_drewN | apply below_drew1) | exact HB.out)) hb); clear HO_5; clear HO_6; clear HB; have HO_5 := n0_; have HO_6 := n1_; have HB := n2_; clear n0_ n1_ n2_; (try clear hb); (try clear hb2); (try clear hk); (try clear hi)))
              go_ret
              exact ⟨by first | rfl | (simp [errW_none, errW_some] <;> rfl) | (simp [*, errW_none, errW_some] <;> rfl), by repeat (first | (with_reducible first | exact HB.out | apply below_alloc | apply pw_below_drewN | apply below_drew1) | exact HB.out)⟩
  · replace c4 := Bool.eq_false_iff.mpr c4
    subst c4
    have H1 : (some false) = some r := by rw [if_neg (show ¬ (false = true) by decide)] at H; exact H
    clear H
    have H := H1
    clear H1
    obtain rfl := Option.some.inj H
    go_enter Try.func7, Try.ntmps7
    go_wp2_with (first | ((with_reducible refine gate_callee (f := 10) rfl ?_); refine goesL_ (some 10) rfl rfl Try.func10 (by kernel_rfl) rfl #[] rfl (by (try simp only [List.map_toArray, List.map_cons, List.map_nil]); first | done | rfl | (simp only [List.length_drop, List.length_take]; rfl)) ?_; (with_reducible refine (flagstonelaw41_awake.calls k  false _ A3.out).mono ?_); rintro e w32 ⟨rfl, hb⟩; refine ⟨_, rfl, ?_⟩; have n0_ := Aside0.mk (below_step (by repeat (first | (with_reducible first | exact HB.out | apply below_alloc | apply pw_below_drewN | apply below_drew1) | exact HB.out)) hb); clear HB; have HB := n0_; clear n0_; (try clear hb); (try clear hb2); (try clear hk); (try clear hi)))
    go_ret
    exact ⟨by first | rfl | (simp [errW_none, errW_some] <;> rfl) | (simp [*, errW_none, errW_some] <;> rfl), by repeat (first | (with_reducible first | exact HB.out | apply below_alloc | apply pw_below_drewN | apply below_drew1) | exact HB.out)⟩

/-- THE ONE PURE STATEMENT of flagstonelaw41_SequenceMirrors: yours. -/
def flagstonelaw41_SequenceMirrors.Pure : Prop := ∀ (l0 : List Int) (a1 : Int), l0.length ≤ maxLen → l0.length * 1 ≤ 140737488351232 → (∀ x ∈ l0, (Lit.int .u8 x).wf = true) → (Lit.int .u16 a1).wf = true → ∃ k, flagstonelaw41_SequenceMirrors.f k l0 a1 = some true
theorem flagstonelaw41_SequenceMirrors.walk (P : flagstonelaw41_SequenceMirrors.Pure) (a0 : Option Addr) (len0 cap0 : Nat) (z0 : List Int) (a1 : Int) (w : World) (w0 : (a0 = none ∧ len0 = 0 ∧ cap0 = 0 ∧ z0 = []) ∨ ∃ x, a0 = some x ∧ len0 ≤ cap0 ∧ cap0 ≤ maxLen ∧ z0.length = cap0 ∧ (∀ i, i < z0.length → w.cell? (x.add i) = some (.int .u8 (z0.getD i 0))) ∧ ∀ n ∈ z0, (Lit.int .u8 n).wf = true) (y0 : len0 * 1 ≤ 140737488351232) (w1 : (Lit.int .u16 a1).wf = true) :
    Calls Try.prog 7 #[.slice a0 len0 cap0, .int .u16 a1] w fun e w' => e = .returned (.bool true) ∧ Below w.heap.size w w' := by
  obtain ⟨l0, rfl, hr0, hm0, hw0, hc0⟩ := ReadsInt.ofRowC w0
  obtain ⟨k, h⟩ := P l0 a1 hm0 y0 hw0 w1
  refine (flagstonelaw41_SequenceMirrors.calls k _ _ l0 a1 true w (Kd.C_of_reads (d := (0 : Int)) (h1 := fun _ => rfl) hr0) hc0 h).mono ?_
  rintro e w' ⟨rfl, hd⟩
  exact ⟨rfl, hd⟩

/-! ### flagstonelaw41_SequenceTruth: function 8 -/
def flagstonelaw41_SequenceTruth.l0 : Nat → Int → Int → List (S50) → Int → Int → Int → Int → Option (Bool)
  | 0, _, _, _, _, _, _, _ => none
  | k + 1, x2, x7, x9, x10, x382000, x382001, x382002 => if x10 < 300 then (if x9.length < 5864062014805 then (flagstonelaw41_SequenceTruth.l0 k x2 x7 (x9 ++ [(⟨x382000, x382001, x382002⟩ : S50)]) (wrap64 (x10 + 1)) x382000 x382001 x382002) else (none)) else ((sequence_Lower.f k x9 (wrap64 (50 + (Int.tmod (wrap64 (x2)) 900)))).bind fun t385 => ((sequence_Upper.f k x9 (wrap64 (50 + (Int.tmod (wrap64 (x2)) 900)))).bind fun t386 => (if (wrap64 (t385 * x7)) ≤ (wrap64 (x382000 * 1000)) then (if (wrap64 (t386 * x7)) ≥ (wrap64 (x382000 * 1000)) then (if (wrap64 (t385 * x7)) ≥ (wrap64 ((wrap64 (x382000 * 1000)) - (wrap64 (300 * x7)))) then (some (decide ((wrap64 (t386 * x7)) ≤ (wrap64 ((wrap64 (x382000 * 1000)) + (wrap64 (300 * x7))))))) else (some false)) else (some false)) else (some false))))
def flagstonelaw41_SequenceTruth.f (k : Nat) (a0 : Int) (a1 : Int) (a2 : Int) : Option (Bool) := (flagstonelaw41_awake.f k).bind fun t380 => (if t380 = true then (if (wrap64 ((wrap64 (2 * (wrap64 (1 + (Int.tmod (wrap64 (a0)) 10))))) + 1)) = 0 then (none) else (flagstonelaw41_SequenceTruth.l0 k a2 (wrap64 (1 + (Int.tmod (wrap64 (a0)) 10))) ([] : List (S50)) 0 (wrap64 ((Int.tmod (wrap64 (a1)) (wrap64 ((wrap64 (2 * (wrap64 (1 + (Int.tmod (wrap64 (a0)) 10))))) + 1))) - (wrap64 (1 + (Int.tmod (wrap64 (a0)) 10))))) (wrap64 (1 + (Int.tmod (wrap64 (a0)) 10))) (wrap64 (2 * (wrap64 (1 + (Int.tmod (wrap64 (a0)) 10))))))) else (some false))
theorem flagstonelaw41_SequenceTruth.mono_l : ∀ k, (∀ y0 y1 y2 y3 y4 y5 y6, LeO (flagstonelaw41_SequenceTruth.l0 k y0 y1 y2 y3 y4 y5 y6) (flagstonelaw41_SequenceTruth.l0 (k + 1) y0 y1 y2 y3 y4 y5 y6))
  | 0 => fun _ _ _ _ _ _ _ r h => by simp [flagstonelaw41_SequenceTruth.l0] at h
  | k + 1 => by
    have ih0 := flagstonelaw41_SequenceTruth.mono_l k
    · intro y0 y1 y2 y3 y4 y5 y6
      unfold flagstonelaw41_SequenceTruth.l0
      repeat' first
      | (with_reducible exact ih0 _ _ _ _ _ _ _)
      | (with_reducible exact flagstonelaw41_awake.mono _)
      | (with_reducible exact sequence_Lower.mono _ _ _)
      | (with_reducible exact sequence_Upper.mono _ _ _)
      | (with_reducible exact LeO.refl _)
      | (with_reducible exact LeO.none _)
      | (with_reducible refine LeO.ite ?_ ?_)
      | (with_reducible refine LeO.bind ?_ (fun _ => ?_))
      | exact ih0 _ _ _ _ _ _ _
      | exact flagstonelaw41_awake.mono _
      | exact sequence_Lower.mono _ _ _
      | exact sequence_Upper.mono _ _ _
      | exact LeO.none _
      | refine LeO.ite ?_ ?_
      | refine LeO.bind ?_ (fun _ => ?_)
theorem flagstonelaw41_SequenceTruth.mono : ∀ a0 a1 a2 k, LeO (flagstonelaw41_SequenceTruth.f k a0 a1 a2) (flagstonelaw41_SequenceTruth.f (k + 1) a0 a1 a2) := by
  intro a0 a1 a2 k
  have ih0 := flagstonelaw41_SequenceTruth.mono_l k
  unfold flagstonelaw41_SequenceTruth.f
  repeat' first
      | (with_reducible exact ih0 _ _ _ _ _ _ _)
      | (with_reducible exact flagstonelaw41_awake.mono _)
      | (with_reducible exact sequence_Lower.mono _ _ _)
      | (with_reducible exact sequence_Upper.mono _ _ _)
      | (with_reducible exact LeO.refl _)
      | (with_reducible exact LeO.none _)
      | (with_reducible refine LeO.ite ?_ ?_)
      | (with_reducible refine LeO.bind ?_ (fun _ => ?_))
      | exact ih0 _ _ _ _ _ _ _
      | exact flagstonelaw41_awake.mono _
      | exact sequence_Lower.mono _ _ _
      | exact sequence_Upper.mono _ _ _
      | exact LeO.none _
      | refine LeO.ite ?_ ?_
      | refine LeO.bind ?_ (fun _ => ?_)
set_option maxHeartbeats 8000000 in
set_option maxRecDepth 100000 in
theorem flagstonelaw41_SequenceTruth.calls (k : Nat) (a0 : Int) (a1 : Int) (a2 : Int) (r : Bool) (w : World) (h : flagstonelaw41_SequenceTruth.f k a0 a1 a2 = some r) :
    Calls Try.prog 8 #[.int .u8 a0, .int .u8 a1, .int .u16 a2] w fun e w' => e = .returned (.bool r) ∧ Below w.heap.size w w' := by
  have hu50 := Try.underlying50
  have HB := Aside0.mk (Below.refl w.heap.size w)
  have H : ((flagstonelaw41_awake.f k).bind fun t380 => (if t380 = true then (if (wrap64 ((wrap64 (2 * (wrap64 (1 + (Int.tmod (wrap64 (a0)) 10))))) + 1)) = 0 then (none) else (flagstonelaw41_SequenceTruth.l0 k a2 (wrap64 (1 + (Int.tmod (wrap64 (a0)) 10))) ([] : List (S50)) 0 (wrap64 ((Int.tmod (wrap64 (a1)) (wrap64 ((wrap64 (2 * (wrap64 (1 + (Int.tmod (wrap64 (a0)) 10))))) + 1))) - (wrap64 (1 + (Int.tmod (wrap64 (a0)) 10))))) (wrap64 (1 + (Int.tmod (wrap64 (a0)) 10))) (wrap64 (2 * (wrap64 (1 + (Int.tmod (wrap64 (a0)) 10))))))) else (some false))) = some r := h
  clear h
  replace H := Option.bind_eq_some_iff.mp H
  obtain ⟨t380, A40, H⟩ := H
  replace H : (if t380 = true then (if (wrap64 ((wrap64 (2 * (wrap64 (1 + (Int.tmod (wrap64 (a0)) 10))))) + 1)) = 0 then (none) else (flagstonelaw41_SequenceTruth.l0 k a2 (wrap64 (1 + (Int.tmod (wrap64 (a0)) 10))) ([] : List (S50)) 0 (wrap64 ((Int.tmod (wrap64 (a1)) (wrap64 ((wrap64 (2 * (wrap64 (1 + (Int.tmod (wrap64 (a0)) 10))))) + 1))) - (wrap64 (1 + (Int.tmod (wrap64 (a0)) 10))))) (wrap64 (1 + (Int.tmod (wrap64 (a0)) 10))) (wrap64 (2 * (wrap64 (1 + (Int.tmod (wrap64 (a0)) 10))))))) else (some false)) = some r := H
  have A4 := Aside0.mk A40
  clear A40
  by_cases c5 : t380 = true
  · subst c5
    have H1 : (if (wrap64 ((wrap64 (2 * (wrap64 (1 + (Int.tmod (wrap64 (a0)) 10))))) + 1)) = 0 then (none) else (flagstonelaw41_SequenceTruth.l0 k a2 (wrap64 (1 + (Int.tmod (wrap64 (a0)) 10))) ([] : List (S50)) 0 (wrap64 ((Int.tmod (wrap64 (a1)) (wrap64 ((wrap64 (2 * (wrap64 (1 + (Int.tmod (wrap64 (a0)) 10))))) + 1))) - (wrap64 (1 + (Int.tmod (wrap64 (a0)) 10))))) (wrap64 (1 + (Int.tmod (wrap64 (a0)) 10))) (wrap64 (2 * (wrap64 (1 + (Int.tmod (wrap64 (a0)) 10))))))) = some r := by rw [if_pos rfl] at H; exact H
    clear H
    have H := H1
    clear H1
    by_cases c6 : (wrap64 ((wrap64 (2 * (wrap64 (1 + (Int.tmod (wrap64 (a0)) 10))))) + 1)) = 0
    · rw [if_pos c6] at H
      exact absurd H (by simp)
    · rw [if_neg c6] at H
      have c6b0 : ((wrap64 ((wrap64 (2 * (wrap64 (1 + (Int.tmod (wrap64 (a0)) 10))))) + 1)) == 0) = false := beq_eq_false_iff_ne.mpr c6
      have c6b1 : ((wrap64 ((wrap64 (2 * (wrap64 (1 + (Int.tmod (wrap64 (a0)) 10))))) + 1)) != 0) = true := bne_iff_ne.mpr c6
      have H' := Aside0.mk H
      clear H
      go_enter Try.func8, Try.ntmps8
      go_wp2_with (first | ((with_reducible refine gate_callee (f := 10) rfl ?_); refine goesL_ (some 14) rfl rfl Try.func10 (by kernel_rfl) rfl #[] rfl (by (try simp only [List.map_toArray, List.map_cons, List.map_nil]); first | done | rfl | (simp only [List.length_drop, List.length_take]; rfl)) ?_; (with_reducible refine (flagstonelaw41_awake.calls k  true _ A4.out).mono ?_); rintro e w7 ⟨rfl, hb⟩; refine ⟨_, rfl, ?_⟩; have n0_ := Aside0.mk (below_step (by repeat (first | (with_reducible first | exact HB.out | apply below_alloc | apply pw_below_drewN | apply below_drew1) | exact HB.out)) hb); clear HB; have HB := n0_; clear n0_; (try clear hb); (try clear hb2); (try clear hk); (try clear hi)) | ((with_reducible refine gate_dst (N := 8) rfl ?_); refine box_event ?hg (N := 8) ?hd (cs := #[.int .i64 0, .int .i64 0, .int .i64 0]) (t := 50) ?hr ?_; (case hd => rfl); (case hg => rfl); (case hr => first | (go_simp; done) | (go_simp; rfl)); intro gb381 hg w8 hbox hb; have n0_ := Aside0.mk (below_step (by repeat (first | (with_reducible first | exact HB.out | apply below_alloc | apply pw_below_drewN | apply below_drew1) | exact HB.out)) hb); have n1_ := Aside0.mk (hbox); have n2_ := Aside0.mk ((by rw [hg]; exact (below_size (by repeat (first | (with_reducible first | exact HB.out | apply below_alloc | apply pw_below_drewN | apply below_drew1) | exact HB.out))) : w.heap.size ≤ gb381)); have n3_ := Aside0.mk ((by rw [hg]; exact (below_size (by repeat (first | (with_reducible first | exact HB.out | apply below_alloc | apply pw_below_drewN | apply below_drew1) | exact HB.out))) : w.heap.size ≤ gb381)); clear HB; have HB := n0_; have BK381 := n1_; have GW381 := n2_; have GE381 := n3_; clear n0_ n1_ n2_ n3_; clear hb hbox hg; have hcz9_0 : w8.cell? ⟨gb381, 0, none⟩ = some (.int .i64 0) := (blk_cell BK381.out 0).trans rfl; have hcz9_1 : w8.cell? ⟨gb381, 1, none⟩ = some (.int .i64 0) := (blk_cell BK381.out 1).trans rfl; have hcz9_2 : w8.cell? ⟨gb381, 2, none⟩ = some (.int .i64 0) := (blk_cell BK381.out 2).trans rfl; have hfz9_0 := blk_frozen BK381.out 0; have hfz9_1 := blk_frozen BK381.out 1; have hfz9_2 := blk_frozen BK381.out 2))
      go_loopg [9, 10] k (fun kq v9 v10 w' => ∃ (x9_1 : List (S50)) (x10_1 : Int), v10 = .int .i64 x10_1 ∧ Aside0 (flagstonelaw41_SequenceTruth.l0 kq a2 (wrap64 (1 + (Int.tmod (wrap64 (a0)) 10))) x9_1 x10_1 (wrap64 ((Int.tmod (wrap64 (a1)) (wrap64 ((wrap64 (2 * (wrap64 (1 + (Int.tmod (wrap64 (a0)) 10))))) + 1))) - (wrap64 (1 + (Int.tmod (wrap64 (a0)) 10))))) (wrap64 (1 + (Int.tmod (wrap64 (a0)) 10))) (wrap64 (2 * (wrap64 (1 + (Int.tmod (wrap64 (a0)) 10))))) = some r) ∧ Aside0 (kq ≤ k) ∧ Aside0 (Kd.R k50 50 w' w.heap.size (fun k_ => k_ ≠ gb381) v9 x9_1) ∧ Aside0 (w'.heap[gb381]? = some (.cells #[.int .i64 (wrap64 ((Int.tmod (wrap64 (a1)) (wrap64 ((wrap64 (2 * (wrap64 (1 + (Int.tmod (wrap64 (a0)) 10))))) + 1))) - (wrap64 (1 + (Int.tmod (wrap64 (a0)) 10))))), .int .i64 (wrap64 (1 + (Int.tmod (wrap64 (a0)) 10))), .int .i64 (wrap64 (2 * (wrap64 (1 + (Int.tmod (wrap64 (a0)) 10)))))] 50 (0, 0))) ∧ Aside0 (Below w.heap.size w w'))
      case atStart => exact ⟨(([] : List (S50))), (0), (by first | rfl | (simp; done) | (simp [*]; done) | exact congrArg (Value.int _) (by unfold wrap64; omega)), H', ⟨Nat.le_refl _⟩, ⟨by first | exact Kd.R_nil _ _ _ _ _ | exact Kd.N_nil _ _ _ _ _ | exact Kd.V_nil _ _ _ _ _ | exact Kd.Q_nil _ _ _ _ _ | exact Kd.S_nil _ _ _ _ _⟩, ⟨by (with_reducible repeat (first | refine blk_drewN ?_ _ | refine blk_drew ?_ | refine blk_alloc ?_ _)); refine blk_put (cs := #[.int .i64 (wrap64 ((Int.tmod (wrap64 (a1)) (wrap64 ((wrap64 (2 * (wrap64 (1 + (Int.tmod (wrap64 (a0)) 10))))) + 1))) - (wrap64 (1 + (Int.tmod (wrap64 (a0)) 10))))), .int .i64 (wrap64 (1 + (Int.tmod (wrap64 (a0)) 10))), .int .i64 0]) ?_ 2 _ rfl; (with_reducible repeat (first | refine blk_drewN ?_ _ | refine blk_drew ?_ | refine blk_alloc ?_ _)); refine blk_put (cs := #[.int .i64 (wrap64 ((Int.tmod (wrap64 (a1)) (wrap64 ((wrap64 (2 * (wrap64 (1 + (Int.tmod (wrap64 (a0)) 10))))) + 1))) - (wrap64 (1 + (Int.tmod (wrap64 (a0)) 10))))), .int .i64 0, .int .i64 0]) ?_ 1 _ rfl; (with_reducible repeat (first | refine blk_drewN ?_ _ | refine blk_drew ?_ | refine blk_alloc ?_ _)); refine blk_put (cs := #[.int .i64 0, .int .i64 0, .int .i64 0]) ?_ 0 _ rfl; (with_reducible repeat (first | refine blk_drewN ?_ _ | refine blk_drew ?_ | refine blk_alloc ?_ _)); exact BK381.out⟩, ⟨by repeat (first | (with_reducible first | exact HB.out | apply below_alloc | apply pw_below_drewN | apply below_drew1 | refine below_set ?_ GE381.out) | exact HB.out)⟩⟩
      case round =>
        clear H'
        try clear c1
        try clear p2
        try clear c5
        try clear c6
        try clear c6b0
        try clear c6b1
        try clear p6
        try clear c8
        try clear hcz9_0
        try clear hcz9_1
        try clear hcz9_2
        try clear hfz9_0
        try clear hfz9_1
        try clear hfz9_2
        obtain ⟨x9_1, x10_1, rfl, HA, HK1, HO_9, BK381, HB⟩ := hrel
        cases gk with
        | zero => exact absurd HA.out (by simp [flagstonelaw41_SequenceTruth.l0])
        | succ k1 =>
          have H := HA.out
          clear HA
          simp only [flagstonelaw41_SequenceTruth.l0] at H
          by_cases c10 : x10_1 < 300
          · rw [if_pos c10] at H
            have c10b0 : decide (x10_1 < 300) = true := decide_eq_true c10
            clear c10
            by_cases c11 : x9_1.length < 5864062014805
            · rw [if_pos c11] at H
              have LMc11 := Aside0.mk c11
              clear c11
              obtain ⟨y382, hy382⟩ : ∃ y_ : List (S50), y_ = (x9_1 ++ [(⟨(wrap64 ((Int.tmod (wrap64 (a1)) (wrap64 ((wrap64 (2 * (wrap64 (1 + (Int.tmod (wrap64 (a0)) 10))))) + 1))) - (wrap64 (1 + (Int.tmod (wrap64 (a0)) 10))))), (wrap64 (1 + (Int.tmod (wrap64 (a0)) 10))), (wrap64 (2 * (wrap64 (1 + (Int.tmod (wrap64 (a0)) 10)))))⟩ : S50)]) := ⟨_, rfl⟩
              replace H : (flagstonelaw41_SequenceTruth.l0 k1 a2 (wrap64 (1 + (Int.tmod (wrap64 (a0)) 10))) y382 (wrap64 (x10_1 + 1)) (wrap64 ((Int.tmod (wrap64 (a1)) (wrap64 ((wrap64 (2 * (wrap64 (1 + (Int.tmod (wrap64 (a0)) 10))))) + 1))) - (wrap64 (1 + (Int.tmod (wrap64 (a0)) 10))))) (wrap64 (1 + (Int.tmod (wrap64 (a0)) 10))) (wrap64 (2 * (wrap64 (1 + (Int.tmod (wrap64 (a0)) 10)))))) = some r := by first | (rw [hy382]; with_reducible exact H) | (have H2_ := (Option.bind_some _ _).symm.trans H; rw [hy382]; with_reducible exact H2_) | (have H2_ := (Option.bind_some _ _).symm.trans H; with_reducible exact H2_) | with_reducible exact H | (rw [hy382]; exact H) | exact H
              have Ny382 := Aside0.mk hy382
              clear hy382
              have H' := Aside0.mk H
              clear H
              have hcz12_0 : wr.cell? ⟨gb381, 0, none⟩ = some (.int .i64 (wrap64 ((Int.tmod (wrap64 (a1)) (wrap64 ((wrap64 (2 * (wrap64 (1 + (Int.tmod (wrap64 (a0)) 10))))) + 1))) - (wrap64 (1 + (Int.tmod (wrap64 (a0)) 10)))))) := (blk_cell BK381.out 0).trans rfl
              have hcz12_1 : wr.cell? ⟨gb381, 1, none⟩ = some (.int .i64 (wrap64 (1 + (Int.tmod (wrap64 (a0)) 10)))) := (blk_cell BK381.out 1).trans rfl
              have hcz12_2 : wr.cell? ⟨gb381, 2, none⟩ = some (.int .i64 (wrap64 (2 * (wrap64 (1 + (Int.tmod (wrap64 (a0)) 10)))))) := (blk_cell BK381.out 2).trans rfl
              have hfz12_0 := blk_frozen BK381.out 0
              have hfz12_1 := blk_frozen BK381.out 1
              have hfz12_2 := blk_frozen BK381.out 2
              go_wp2_with (first | ((with_reducible refine gate_builtin (b := .append) (xs := #[.tmp 36, .tmp 38]) rfl ?_); at_builtin; refine Kd.R_append k50 (w0 := w) w.heap.size rfl (.tmp 36) (.tmp 38) 29 50 (.agg #[(.int .i64 0), (.int .i64 0), (.int .i64 0)]) 24 rfl Try.underlying29 info50 rfl (by decide) (by omega) u9 x9_1 (⟨(wrap64 ((Int.tmod (wrap64 (a1)) (wrap64 ((wrap64 (2 * (wrap64 (1 + (Int.tmod (wrap64 (a0)) 10))))) + 1))) - (wrap64 (1 + (Int.tmod (wrap64 (a0)) 10))))), (wrap64 (1 + (Int.tmod (wrap64 (a0)) 10))), (wrap64 (2 * (wrap64 (1 + (Int.tmod (wrap64 (a0)) 10)))))⟩ : S50) [.int .i64 (wrap64 ((Int.tmod (wrap64 (a1)) (wrap64 ((wrap64 (2 * (wrap64 (1 + (Int.tmod (wrap64 (a0)) 10))))) + 1))) - (wrap64 (1 + (Int.tmod (wrap64 (a0)) 10))))), .int .i64 (wrap64 (1 + (Int.tmod (wrap64 (a0)) 10))), .int .i64 (wrap64 (2 * (wrap64 (1 + (Int.tmod (wrap64 (a0)) 10)))))] (fun k_ => k_ ≠ gb381) (fun _ => False) rfl rfl ?aP (fun _ hk => hk.elim) ?aF ?aO ?aB ?aS ?aL ?_; (case aP => exact k50_mkM _ _ _ (⟨(wrap64 ((Int.tmod (wrap64 (a1)) (wrap64 ((wrap64 (2 * (wrap64 (1 + (Int.tmod (wrap64 (a0)) 10))))) + 1))) - (wrap64 (1 + (Int.tmod (wrap64 (a0)) 10))))), (wrap64 (1 + (Int.tmod (wrap64 (a0)) 10))), (wrap64 (2 * (wrap64 (1 + (Int.tmod (wrap64 (a0)) 10)))))⟩ : S50)); (case aB => exact (by repeat (first | (with_reducible first | exact HB.out | apply below_alloc | apply pw_below_drewN | apply below_drew1 | refine below_set ?_ GE381.out) | exact HB.out))); (case aF => exact (fun k_ hk => Kd.freshB (g := gb381) (o := .cells #[.int .i64 (wrap64 ((Int.tmod (wrap64 (a1)) (wrap64 ((wrap64 (2 * (wrap64 (1 + (Int.tmod (wrap64 (a0)) 10))))) + 1))) - (wrap64 (1 + (Int.tmod (wrap64 (a0)) 10))))), .int .i64 (wrap64 (1 + (Int.tmod (wrap64 (a0)) 10))), .int .i64 (wrap64 (2 * (wrap64 (1 + (Int.tmod (wrap64 (a0)) 10)))))] 50 (0, 0)) (by (with_reducible repeat (first | refine blk_drewN ?_ _ | refine blk_drew ?_ | refine blk_alloc ?_ _)); exact BK381.out) k_ hk)); (case aO => exact (by (with_reducible repeat (first | apply Kd.R_alloc | apply Kd.R_drewN | apply Kd.R_drew)); exact HO_9.out)); (case aS => exact (below_size (by repeat (first | (with_reducible first | exact HB.out | apply below_alloc | apply pw_below_drewN | apply below_drew1 | refine below_set ?_ GE381.out) | exact HB.out)))); (case aL => have := LMc11.out; omega); intro v383 w13 ho hb hg hat; rw [← Ny382.out] at ho; have n0_ := Aside0.mk (blk_grown (g := gb381) (o := .cells #[.int .i64 (wrap64 ((Int.tmod (wrap64 (a1)) (wrap64 ((wrap64 (2 * (wrap64 (1 + (Int.tmod (wrap64 (a0)) 10))))) + 1))) - (wrap64 (1 + (Int.tmod (wrap64 (a0)) 10))))), .int .i64 (wrap64 (1 + (Int.tmod (wrap64 (a0)) 10))), .int .i64 (wrap64 (2 * (wrap64 (1 + (Int.tmod (wrap64 (a0)) 10)))))] 50 (0, 0)) (by (with_reducible repeat (first | refine blk_drewN ?_ _ | refine blk_drew ?_ | refine blk_alloc ?_ _)); exact BK381.out) hg (Kd.R_away HO_9.out (fun _ hk => hk))); have n1_ := Aside0.mk (hb); have n2_ := Aside0.mk (ho); clear BK381; clear HB; clear HO_9; have BK381 := n0_; have HB := n1_; have HO384 := n2_; clear n0_ n1_ n2_; clear ho hb hg hat))
              go_roundg k1
              case measure => have := HK1.out; omega
              case rel => exact ⟨(y382), (wrap64 (x10_1 + 1)), (by first | rfl | (simp; done) | (simp [*]; done) | exact congrArg (Value.int _) (by unfold wrap64; omega)), H', ⟨by have := HK1.out; omega⟩, ⟨by (with_reducible repeat (first | apply Kd.R_alloc | apply Kd.R_drewN | apply Kd.R_drew)); exact HO384.out⟩, ⟨by (with_reducible repeat (first | refine blk_drewN ?_ _ | refine blk_drew ?_ | refine blk_alloc ?_ _)); exact BK381.out⟩, ⟨by repeat (first | (with_reducible first | exact HB.out | apply below_alloc | apply pw_below_drewN | apply below_drew1 | refine below_set ?_ GE381.out) | exact HB.out)⟩⟩
            · rw [if_neg c11] at H
              exact absurd H (by simp)
          · rw [if_neg c10] at H
            have c10b0 : decide (x10_1 < 300) = false := decide_eq_false c10
            clear c10
            replace H := Option.bind_eq_some_iff.mp H
            obtain ⟨t385, A140, H⟩ := H
            replace H : ((sequence_Upper.f k1 x9_1 (wrap64 (50 + (Int.tmod (wrap64 (a2)) 900)))).bind fun t386 => (if (wrap64 (t385 * (wrap64 (1 + (Int.tmod (wrap64 (a0)) 10))))) ≤ (wrap64 ((wrap64 ((Int.tmod (wrap64 (a1)) (wrap64 ((wrap64 (2 * (wrap64 (1 + (Int.tmod (wrap64 (a0)) 10))))) + 1))) - (wrap64 (1 + (Int.tmod (wrap64 (a0)) 10))))) * 1000)) then (if (wrap64 (t386 * (wrap64 (1 + (Int.tmod (wrap64 (a0)) 10))))) ≥ (wrap64 ((wrap64 ((Int.tmod (wrap64 (a1)) (wrap64 ((wrap64 (2 * (wrap64 (1 + (Int.tmod (wrap64 (a0)) 10))))) + 1))) - (wrap64 (1 + (Int.tmod (wrap64 (a0)) 10))))) * 1000)) then (if (wrap64 (t385 * (wrap64 (1 + (Int.tmod (wrap64 (a0)) 10))))) ≥ (wrap64 ((wrap64 ((wrap64 ((Int.tmod (wrap64 (a1)) (wrap64 ((wrap64 (2 * (wrap64 (1 + (Int.tmod (wrap64 (a0)) 10))))) + 1))) - (wrap64 (1 + (Int.tmod (wrap64 (a0)) 10))))) * 1000)) - (wrap64 (300 * (wrap64 (1 + (Int.tmod (wrap64 (a0)) 10))))))) then (some (decide ((wrap64 (t386 * (wrap64 (1 + (Int.tmod (wrap64 (a0)) 10))))) ≤ (wrap64 ((wrap64 ((wrap64 ((Int.tmod (wrap64 (a1)) (wrap64 ((wrap64 (2 * (wrap64 (1 + (Int.tmod (wrap64 (a0)) 10))))) + 1))) - (wrap64 (1 + (Int.tmod (wrap64 (a0)) 10))))) * 1000)) + (wrap64 (300 * (wrap64 (1 + (Int.tmod (wrap64 (a0)) 10)))))))))) else (some false)) else (some false)) else (some false))) = some r := H
            have A14 := Aside0.mk A140
            clear A140
            replace H := Option.bind_eq_some_iff.mp H
            obtain ⟨t386, A150, H⟩ := H
            replace H : (if (wrap64 (t385 * (wrap64 (1 + (Int.tmod (wrap64 (a0)) 10))))) ≤ (wrap64 ((wrap64 ((Int.tmod (wrap64 (a1)) (wrap64 ((wrap64 (2 * (wrap64 (1 + (Int.tmod (wrap64 (a0)) 10))))) + 1))) - (wrap64 (1 + (Int.tmod (wrap64 (a0)) 10))))) * 1000)) then (if (wrap64 (t386 * (wrap64 (1 + (Int.tmod (wrap64 (a0)) 10))))) ≥ (wrap64 ((wrap64 ((Int.tmod (wrap64 (a1)) (wrap64 ((wrap64 (2 * (wrap64 (1 + (Int.tmod (wrap64 (a0)) 10))))) + 1))) - (wrap64 (1 + (Int.tmod (wrap64 (a0)) 10))))) * 1000)) then (if (wrap64 (t385 * (wrap64 (1 + (Int.tmod (wrap64 (a0)) 10))))) ≥ (wrap64 ((wrap64 ((wrap64 ((Int.tmod (wrap64 (a1)) (wrap64 ((wrap64 (2 * (wrap64 (1 + (Int.tmod (wrap64 (a0)) 10))))) + 1))) - (wrap64 (1 + (Int.tmod (wrap64 (a0)) 10))))) * 1000)) - (wrap64 (300 * (wrap64 (1 + (Int.tmod (wrap64 (a0)) 10))))))) then (some (decide ((wrap64 (t386 * (wrap64 (1 + (Int.tmod (wrap64 (a0)) 10))))) ≤ (wrap64 ((wrap64 ((wrap64 ((Int.tmod (wrap64 (a1)) (wrap64 ((wrap64 (2 * (wrap64 (1 + (Int.tmod (wrap64 (a0)) 10))))) + 1))) - (wrap64 (1 + (Int.tmod (wrap64 (a0)) 10))))) * 1000)) + (wrap64 (300 * (wrap64 (1 + (Int.tmod (wrap64 (a0)) 10)))))))))) else (some false)) else (some false)) else (some false)) = some r := H
            have A15 := Aside0.mk A150
            clear A150
            by_cases c16 : (wrap64 (t385 * (wrap64 (1 + (Int.tmod (wrap64 (a0)) 10))))) ≤ (wrap64 ((wrap64 ((Int.tmod (wrap64 (a1)) (wrap64 ((wrap64 (2 * (wrap64 (1 + (Int.tmod (wrap64 (a0)) 10))))) + 1))) - (wrap64 (1 + (Int.tmod (wrap64 (a0)) 10))))) * 1000))
            · rw [if_pos c16] at H
              have c16b0 : decide ((wrap64 (t385 * (wrap64 (1 + (Int.tmod (wrap64 (a0)) 10))))) ≤ (wrap64 ((wrap64 ((Int.tmod (wrap64 (a1)) (wrap64 ((wrap64 (2 * (wrap64 (1 + (Int.tmod (wrap64 (a0)) 10))))) + 1))) - (wrap64 (1 + (Int.tmod (wrap64 (a0)) 10))))) * 1000))) = true := decide_eq_true c16
              clear c16
              by_cases c17 : (wrap64 (t386 * (wrap64 (1 + (Int.tmod (wrap64 (a0)) 10))))) ≥ (wrap64 ((wrap64 ((Int.tmod (wrap64 (a1)) (wrap64 ((wrap64 (2 * (wrap64 (1 + (Int.tmod (wrap64 (a0)) 10))))) + 1))) - (wrap64 (1 + (Int.tmod (wrap64 (a0)) 10))))) * 1000))
              · rw [if_pos c17] at H
                have c17b0 : decide ((wrap64 ((wrap64 ((Int.tmod (wrap64 (a1)) (wrap64 ((wrap64 (2 * (wrap64 (1 + (Int.tmod (wrap64 (a0)) 10))))) + 1))) - (wrap64 (1 + (Int.tmod (wrap64 (a0)) 10))))) * 1000)) ≤ (wrap64 (t386 * (wrap64 (1 + (Int.tmod (wrap64 (a0)) 10)))))) = true := decide_eq_true c17
                clear c17
                by_cases c18 : (wrap64 (t385 * (wrap64 (1 + (Int.tmod (wrap64 (a0)) 10))))) ≥ (wrap64 ((wrap64 ((wrap64 ((Int.tmod (wrap64 (a1)) (wrap64 ((wrap64 (2 * (wrap64 (1 + (Int.tmod (wrap64 (a0)) 10))))) + 1))) - (wrap64 (1 + (Int.tmod (wrap64 (a0)) 10))))) * 1000)) - (wrap64 (300 * (wrap64 (1 + (Int.tmod (wrap64 (a0)) 10)))))))
                · rw [if_pos c18] at H
                  have c18b0 : decide ((wrap64 ((wrap64 ((wrap64 ((Int.tmod (wrap64 (a1)) (wrap64 ((wrap64 (2 * (wrap64 (1 + (Int.tmod (wrap64 (a0)) 10))))) + 1))) - (wrap64 (1 + (Int.tmod (wrap64 (a0)) 10))))) * 1000)) - (wrap64 (300 * (wrap64 (1 + (Int.tmod (wrap64 (a0)) 10))))))) ≤ (wrap64 (t385 * (wrap64 (1 + (Int.tmod (wrap64 (a0)) 10)))))) = true := decide_eq_true c18
                  clear c18
                  obtain rfl := Option.some.inj H
                  obtain ⟨Ao19, co19, eo19⟩ := Kd.R_slice HO_9.out
                  subst eo19
                  go_wp2_with (first | ((with_reducible refine gate_callee (f := 18) rfl ?_); refine goesL_ (some 46) rfl rfl Try.func18 (by kernel_rfl) rfl #[.slice Ao19 x9_1.length co19, .int .i64 (wrap64 (50 + (Int.tmod (wrap64 (a2)) 900)))] rfl (by (try simp only [List.map_toArray, List.map_cons, List.map_nil]); first | done | rfl | (simp only [List.length_drop, List.length_take]; rfl)) ?_; (with_reducible refine (sequence_Lower.calls k1 _ _ x9_1 (wrap64 (50 + (Int.tmod (wrap64 (a2)) 900))) t385 _ ?side1 ?side2 A14.out).mono ?_); (case side1 => repeat (first | exact (Kd.R_reads' HO_9.out).2.2 | (with_reducible refine Kd.C_alloc ?_ _) | (with_reducible refine Kd.C_drewN ?_ _) | (with_reducible refine Kd.C_drew ?_))); (case side2 => exact (Kd.R_reads' HO_9.out).2.1); rintro e w20 ⟨rfl, hb⟩; refine ⟨_, rfl, ?_⟩; have n0_ := Aside0.mk (Kd.R_below (by (with_reducible repeat (first | apply Kd.R_alloc | apply Kd.R_drewN | apply Kd.R_drew)); exact HO_9.out) hb); have n1_ := Aside0.mk (blk_below (g := gb381) (o := .cells #[.int .i64 (wrap64 ((Int.tmod (wrap64 (a1)) (wrap64 ((wrap64 (2 * (wrap64 (1 + (Int.tmod (wrap64 (a0)) 10))))) + 1))) - (wrap64 (1 + (Int.tmod (wrap64 (a0)) 10))))), .int .i64 (wrap64 (1 + (Int.tmod (wrap64 (a0)) 10))), .int .i64 (wrap64 (2 * (wrap64 (1 + (Int.tmod (wrap64 (a0)) 10)))))] 50 (0, 0)) (by (with_reducible repeat (first | refine blk_drewN ?_ _ | refine blk_drew ?_ | refine blk_alloc ?_ _)); exact BK381.out) hb); have n2_ := Aside0.mk (below_step (by repeat (first | (with_reducible first | exact HB.out | apply below_alloc | apply pw_below_drewN | apply below_drew1 | refine below_set ?_ GE381.out) | exact HB.out)) hb); clear HO_9; clear BK381; clear HB; have HO_9 := n0_; have BK381 := n1_; have HB := n2_; clear n0_ n1_ n2_; (try clear hb); (try clear hb2); (try clear hk); (try clear hi)) | ((with_reducible refine gate_callee (f := 20) rfl ?_); refine goesL_ (some 49) rfl rfl Try.func20 (by kernel_rfl) rfl #[.slice Ao19 x9_1.length co19, .int .i64 (wrap64 (50 + (Int.tmod (wrap64 (a2)) 900)))] rfl (by (try simp only [List.map_toArray, List.map_cons, List.map_nil]); first | done | rfl | (simp only [List.length_drop, List.length_take]; rfl)) ?_; (with_reducible refine (sequence_Upper.calls k1 _ _ x9_1 (wrap64 (50 + (Int.tmod (wrap64 (a2)) 900))) t386 _ ?side1 ?side2 A15.out).mono ?_); (case side1 => repeat (first | exact (Kd.R_reads' HO_9.out).2.2 | (with_reducible refine Kd.C_alloc ?_ _) | (with_reducible refine Kd.C_drewN ?_ _) | (with_reducible refine Kd.C_drew ?_))); (case side2 => exact (Kd.R_reads' HO_9.out).2.1); rintro e w21 ⟨rfl, hb⟩; refine ⟨_, rfl, ?_⟩; have n0_ := Aside0.mk (Kd.R_below (by (with_reducible repeat (first | apply Kd.R_alloc | apply Kd.R_drewN | apply Kd.R_drew)); exact HO_9.out) hb); have n1_ := Aside0.mk (blk_below (g := gb381) (o := .cells #[.int .i64 (wrap64 ((Int.tmod (wrap64 (a1)) (wrap64 ((wrap64 (2 * (wrap64 (1 + (Int.tmod (wrap64 (a0)) 10))))) + 1))) - (wrap64 (1 + (Int.tmod (wrap64 (a0)) 10))))), .int .i64 (wrap64 (1 + (Int.tmod (wrap64 (a0)) 10))), .int .i64 (wrap64 (2 * (wrap64 (1 + (Int.tmod (wrap64 (a0)) 10)))))] 50 (0, 0)) (by (with_reducible repeat (first | refine blk_drewN ?_ _ | refine blk_drew ?_ | refine blk_alloc ?_ _)); exact BK381.out) hb); have n2_ := Aside0.mk (below_step (by repeat (first | (with_reducible first | exact HB.out | apply below_alloc | apply pw_below_drewN | apply below_drew1 | refine below_set ?_ GE381.out) | exact HB.out)) hb); clear HO_9; clear BK381; clear HB; have HO_9 := n0_; have BK381 := n1_; have HB := n2_; clear n0_ n1_ n2_; (try clear hb); (try clear hb2); (try clear hk); (try clear hi); have hcz22_0 : w21.cell? ⟨gb381, 0, none⟩ = some (.int .i64 (wrap64 ((Int.tmod (wrap64 (a1)) (wrap64 ((wrap64 (2 * (wrap64 (1 + (Int.tmod (wrap64 (a0)) 10))))) + 1))) - (wrap64 (1 + (Int.tmod (wrap64 (a0)) 10)))))) := (blk_cell BK381.out 0).trans rfl; have hcz22_1 : w21.cell? ⟨gb381, 1, none⟩ = some (.int .i64 (wrap64 (1 + (Int.tmod (wrap64 (a0)) 10)))) := (blk_cell BK381.out 1).trans rfl; have hcz22_2 : w21.cell? ⟨gb381, 2, none⟩ = some (.int .i64 (wrap64 (2 * (wrap64 (1 + (Int.tmod (wrap64 (a0)) 10)))))) := (blk_cell BK381.out 2).trans rfl; have hfz22_0 := blk_frozen BK381.out 0; have hfz22_1 := blk_frozen BK381.out 1; have hfz22_2 := blk_frozen BK381.out 2))
                  go_ret
                  exact ⟨by first | rfl | (simp [errW_none, errW_some] <;> rfl) | (simp [*, errW_none, errW_some] <;> rfl), by repeat (first | (with_reducible first | exact HB.out | apply below_alloc | apply pw_below_drewN | apply below_drew1 | refine below_set ?_ GE381.out) | exact HB.out)⟩
                · rw [if_neg c18] at H
                  have c18b0 : decide ((wrap64 ((wrap64 ((wrap64 ((Int.tmod (wrap64 (a1)) (wrap64 ((wrap64 (2 * (wrap64 (1 + (Int.tmod (wrap64 (a0)) 10))))) + 1))) - (wrap64 (1 + (Int.tmod (wrap64 (a0)) 10))))) * 1000)) - (wrap64 (300 * (wrap64 (1 + (Int.tmod (wrap64 (a0)) 10))))))) ≤ (wrap64 (t385 * (wrap64 (1 + (Int.tmod (wrap64 (a0)) 10)))))) = false := decide_eq_false c18
                  clear c18
                  obtain rfl := Option.some.inj H
                  obtain ⟨Ao23, co23, eo23⟩ := Kd.R_slice HO_9.out
                  subst eo23
                  go_wp2_with (first | ((with_reducible refine gate_callee (f := 18) rfl ?_); refine goesL_ (some 46) rfl rfl Try.func18 (by kernel_rfl) rfl #[.slice Ao23 x9_1.length co23, .int .i64 (wrap64 (50 + (Int.tmod (wrap64 (a2)) 900)))] rfl (by (try simp only [List.map_toArray, List.map_cons, List.map_nil]); first | done | rfl | (simp only [List.length_drop, List.length_take]; rfl)) ?_; (with_reducible refine (sequence_Lower.calls k1 _ _ x9_1 (wrap64 (50 + (Int.tmod (wrap64 (a2)) 900))) t385 _ ?side1 ?side2 A14.out).mono ?_); (case side1 => repeat (first | exact (Kd.R_reads' HO_9.out).2.2 | (with_reducible refine Kd.C_alloc ?_ _) | (with_reducible refine Kd.C_drewN ?_ _) | (with_reducible refine Kd.C_drew ?_))); (case side2 => exact (Kd.R_reads' HO_9.out).2.1); rintro e w24 ⟨rfl, hb⟩; refine ⟨_, rfl, ?_⟩; have n0_ := Aside0.mk (Kd.R_below (by (with_reducible repeat (first | apply Kd.R_alloc | apply Kd.R_drewN | apply Kd.R_drew)); exact HO_9.out) hb); have n1_ := Aside0.mk (blk_below (g := gb381) (o := .cells #[.int .i64 (wrap64 ((Int.tmod (wrap64 (a1)) (wrap64 ((wrap64 (2 * (wrap64 (1 + (Int.tmod (wrap64 (a0)) 10))))) + 1))) - (wrap64 (1 + (Int.tmod (wrap64 (a0)) 10))))), .int .i64 (wrap64 (1 + (Int.tmod (wrap64 (a0)) 10))), .int .i64 (wrap64 (2 * (wrap64 (1 + (Int.tmod (wrap64 (a0)) 10)))))] 50 (0, 0)) (by (with_reducible repeat (first | refine blk_drewN ?_ _ | refine blk_drew ?_ | refine blk_alloc ?_ _)); exact BK381.out) hb); have n2_ := Aside0.mk (below_step (by repeat (first | (with_reducible first | exact HB.out | apply below_alloc | apply pw_below_drewN | apply below_drew1 | refine below_set ?_ GE381.out) | exact HB.out)) hb); clear HO_9; clear BK381; clear HB; have HO_9 := n0_; have BK381 := n1_; have HB := n2_; clear n0_ n1_ n2_; (try clear hb); (try clear hb2); (try clear hk); (try clear hi)) | ((with_reducible refine gate_callee (f := 20) rfl ?_); refine goesL_ (some 49) rfl rfl Try.func20 (by kernel_rfl) rfl #[.slice Ao23 x9_1.length co23, .int .i64 (wrap64 (50 + (Int.tmod (wrap64 (a2)) 900)))] rfl (by (try simp only [List.map_toArray, List.map_cons, List.map_nil]); first | done | rfl | (simp only [List.length_drop, List.length_take]; rfl)) ?_; (with_reducible refine (sequence_Upper.calls k1 _ _ x9_1 (wrap64 (50 + (Int.tmod (wrap64 (a2)) 900))) t386 _ ?side1 ?side2 A15.out).mono ?_); (case side1 => repeat (first | exact (Kd.R_reads' HO_9.out).2.2 | (with_reducible refine Kd.C_alloc ?_ _) | (with_reducible refine Kd.C_drewN ?_ _) | (with_reducible refine Kd.C_drew ?_))); (case side2 => exact (Kd.R_reads' HO_9.out).2.1); rintro e w25 ⟨rfl, hb⟩; refine ⟨_, rfl, ?_⟩; have n0_ := Aside0.mk (Kd.R_below (by (with_reducible repeat (first | apply Kd.R_alloc | apply Kd.R_drewN | apply Kd.R_drew)); exact HO_9.out) hb); have n1_ := Aside0.mk (blk_below (g := gb381) (o := .cells #[.int .i64 (wrap64 ((Int.tmod (wrap64 (a1)) (wrap64 ((wrap64 (2 * (wrap64 (1 + (Int.tmod (wrap64 (a0)) 10))))) + 1))) - (wrap64 (1 + (Int.tmod (wrap64 (a0)) 10))))), .int .i64 (wrap64 (1 + (Int.tmod (wrap64 (a0)) 10))), .int .i64 (wrap64 (2 * (wrap64 (1 + (Int.tmod (wrap64 (a0)) 10)))))] 50 (0, 0)) (by (with_reducible repeat (first | refine blk_drewN ?_ _ | refine blk_drew ?_ | refine blk_alloc ?_ _)); exact BK381.out) hb); have n2_ := Aside0.mk (below_step (by repeat (first | (with_reducible first | exact HB.out | apply below_alloc | apply pw_below_drewN | apply below_drew1 | refine below_set ?_ GE381.out) | exact HB.out)) hb); clear HO_9; clear BK381; clear HB; have HO_9 := n0_; have BK381 := n1_; have HB := n2_; clear n0_ n1_ n2_; (try clear hb); (try clear hb2); (try clear hk); (try clear hi); have hcz26_0 : w25.cell? ⟨gb381, 0, none⟩ = some (.int .i64 (wrap64 ((Int.tmod (wrap64 (a1)) (wrap64 ((wrap64 (2 * (wrap64 (1 + (Int.tmod (wrap64 (a0)) 10))))) + 1))) - (wrap64 (1 + (Int.tmod (wrap64 (a0)) 10)))))) := (blk_cell BK381.out 0).trans rfl; have hcz26_1 : w25.cell? ⟨gb381, 1, none⟩ = some (.int .i64 (wrap64 (1 + (Int.tmod (wrap64 (a0)) 10)))) := (blk_cell BK381.out 1).trans rfl; have hcz26_2 : w25.cell? ⟨gb381, 2, none⟩ = some (.int .i64 (wrap64 (2 * (wrap64 (1 + (Int.tmod (wrap64 (a0)) 10)))))) := (blk_cell BK381.out 2).trans rfl; have hfz26_0 := blk_frozen BK381.out 0; have hfz26_1 := blk_frozen BK381.out 1; have hfz26_2 := blk_frozen BK381.out 2))
                  go_ret
                  exact ⟨by first | rfl | (simp [errW_none, errW_some] <;> rfl) | (simp [*, errW_none, errW_some] <;> rfl), by repeat (first | (with_reducible first | exact HB.out | apply below_alloc | apply pw_below_drewN | apply below_drew1 | refine below_set ?_ GE381.out) | exact HB.out)⟩
              · rw [if_neg c17] at H
                have c17b0 : decide ((wrap64 ((wrap64 ((Int.tmod (wrap64 (a1)) (wrap64 ((wrap64 (2 * (wrap64 (1 + (Int.tmod (wrap64 (a0)) 10))))) + 1))) - (wrap64 (1 + (Int.tmod (wrap64 (a0)) 10))))) * 1000)) ≤ (wrap64 (t386 * (wrap64 (1 + (Int.tmod (wrap64 (a0)) 10)))))) = false := decide_eq_false c17
                clear c17
                obtain rfl := Option.some.inj H
                obtain ⟨Ao27, co27, eo27⟩ := Kd.R_slice HO_9.out
                subst eo27
                go_wp2_with (first | ((with_reducible refine gate_callee (f := 18) rfl ?_); refine goesL_ (some 46) rfl rfl Try.func18 (by kernel_rfl) rfl #[.slice Ao27 x9_1.length co27, .int .i64 (wrap64 (50 + (Int.tmod (wrap64 (a2)) 900)))] rfl (by (try simp only [List.map_toArray, List.map_cons, List.map_nil]); first | done | rfl | (simp only [List.length_drop, List.length_take]; rfl)) ?_; (with_reducible refine (sequence_Lower.calls k1 _ _ x9_1 (wrap64 (50 + (Int.tmod (wrap64 (a2)) 900))) t385 _ ?side1 ?side2 A14.out).mono ?_); (case side1 => repeat (first | exact (Kd.R_reads' HO_9.out).2.2 | (with_reducible refine Kd.C_alloc ?_ _) | (with_reducible refine Kd.C_drewN ?_ _) | (with_reducible refine Kd.C_drew ?_))); (case side2 => exact (Kd.R_reads' HO_9.out).2.1); rintro e w28 ⟨rfl, hb⟩; refine ⟨_, rfl, ?_⟩; have n0_ := Aside0.mk (Kd.R_below (by (with_reducible repeat (first | apply Kd.R_alloc | apply Kd.R_drewN | apply Kd.R_drew)); exact HO_9.out) hb); have n1_ := Aside0.mk (blk_below (g := gb381) (o := .cells #[.int .i64 (wrap64 ((Int.tmod (wrap64 (a1)) (wrap64 ((wrap64 (2 * (wrap64 (1 + (Int.tmod (wrap64 (a0)) 10))))) + 1))) - (wrap64 (1 + (Int.tmod (wrap64 (a0)) 10))))), .int .i64 (wrap64 (1 + (Int.tmod (wrap64 (a0)) 10))), .int .i64 (wrap64 (2 * (wrap64 (1 + (Int.tmod (wrap64 (a0)) 10)))))] 50 (0, 0)) (by (with_reducible repeat (first | refine blk_drewN ?_ _ | refine blk_drew ?_ | refine blk_alloc ?_ _)); exact BK381.out) hb); have n2_ := Aside0.mk (below_step (by repeat (first | (with_reducible first | exact HB.out | apply below_alloc | apply pw_below_drewN | apply below_drew1 | refine below_set ?_ GE381.out) | exact HB.out)) hb); clear HO_9; clear BK381; clear HB; have HO_9 := n0_; have BK381 := n1_; have HB := n2_; clear n0_ n1_ n2_; (try clear hb); (try clear hb2); (try clear hk); (try clear hi)) | ((with_reducible refine gate_callee (f := 20) rfl ?_); refine goesL_ (some 49) rfl rfl Try.func20 (by kernel_rfl) rfl #[.slice Ao27 x9_1.length co27, .int .i64 (wrap64 (50 + (Int.tmod (wrap64 (a2)) 900)))] rfl (by (try simp only [List.map_toArray, List.map_cons, List.map_nil]); first | done | rfl | (simp only [List.length_drop, List.length_take]; rfl)) ?_; (with_reducible refine (sequence_Upper.calls k1 _ _ x9_1 (wrap64 (50 + (Int.tmod (wrap64 (a2)) 900))) t386 _ ?side1 ?side2 A15.out).mono ?_); (case side1 => repeat (first | exact (Kd.R_reads' HO_9.out).2.2 | (with_reducible refine Kd.C_alloc ?_ _) | (with_reducible refine Kd.C_drewN ?_ _) | (with_reducible refine Kd.C_drew ?_))); (case side2 => exact (Kd.R_reads' HO_9.out).2.1); rintro e w29 ⟨rfl, hb⟩; refine ⟨_, rfl, ?_⟩; have n0_ := Aside0.mk (Kd.R_below (by (with_reducible repeat (first | apply Kd.R_alloc | apply Kd.R_drewN | apply Kd.R_drew)); exact HO_9.out) hb); have n1_ := Aside0.mk (blk_below (g := gb381) (o := .cells #[.int .i64 (wrap64 ((Int.tmod (wrap64 (a1)) (wrap64 ((wrap64 (2 * (wrap64 (1 + (Int.tmod (wrap64 (a0)) 10))))) + 1))) - (wrap64 (1 + (Int.tmod (wrap64 (a0)) 10))))), .int .i64 (wrap64 (1 + (Int.tmod (wrap64 (a0)) 10))), .int .i64 (wrap64 (2 * (wrap64 (1 + (Int.tmod (wrap64 (a0)) 10)))))] 50 (0, 0)) (by (with_reducible repeat (first | refine blk_drewN ?_ _ | refine blk_drew ?_ | refine blk_alloc ?_ _)); exact BK381.out) hb); have n2_ := Aside0.mk (below_step (by repeat (first | (with_reducible first | exact HB.out | apply below_alloc | apply pw_below_drewN | apply below_drew1 | refine below_set ?_ GE381.out) | exact HB.out)) hb); clear HO_9; clear BK381; clear HB; have HO_9 := n0_; have BK381 := n1_; have HB := n2_; clear n0_ n1_ n2_; (try clear hb); (try clear hb2); (try clear hk); (try clear hi); have hcz30_0 : w29.cell? ⟨gb381, 0, none⟩ = some (.int .i64 (wrap64 ((Int.tmod (wrap64 (a1)) (wrap64 ((wrap64 (2 * (wrap64 (1 + (Int.tmod (wrap64 (a0)) 10))))) + 1))) - (wrap64 (1 + (Int.tmod (wrap64 (a0)) 10)))))) := (blk_cell BK381.out 0).trans rfl; have hcz30_1 : w29.cell? ⟨gb381, 1, none⟩ = some (.int .i64 (wrap64 (1 + (Int.tmod (wrap64 (a0)) 10)))) := (blk_cell BK381.out 1).trans rfl; have hcz30_2 : w29.cell? ⟨gb381, 2, none⟩ = some (.int .i64 (wrap64 (2 * (wrap64 (1 + (Int.tmod (wrap64 (a0)) 10)))))) := (blk_cell BK381.out 2).trans rfl; have hfz30_0 := blk_frozen BK381.out 0; have hfz30_1 := blk_frozen BK381.out 1; have hfz30_2 := blk_frozen BK381.out 2))
                go_ret
                exact ⟨by first | rfl | (simp [errW_none, errW_some] <;> rfl) | (simp [*, errW_none, errW_some] <;> rfl), by repeat (first | (with_reducible first | exact HB.out | apply below_alloc | apply pw_below_drewN | apply below_drew1 | refine below_set ?_ GE381.out) | exact HB.out)⟩
            · rw [if_neg c16] at H
              have c16b0 : decide ((wrap64 (t385 * (wrap64 (1 + (Int.tmod (wrap64 (a0)) 10))))) ≤ (wrap64 ((wrap64 ((Int.tmod (wrap64 (a1)) (wrap64 ((wrap64 (2 * (wrap64 (1 + (Int.tmod (wrap64 (a0)) 10))))) + 1))) - (wrap64 (1 + (Int.tmod (wrap64 (a0)) 10))))) * 1000))) = false := decide_eq_false c16
              clear c16
              obtain rfl := Option.some.inj H
              obtain ⟨Ao31, co31, eo31⟩ := Kd.R_slice HO_9.out
              subst eo31
              go_wp2_with (first | ((with_reducible refine gate_callee (f := 18) rfl ?_); refine goesL_ (some 46) rfl rfl Try.func18 (by kernel_rfl) rfl #[.slice Ao31 x9_1.length co31, .int .i64 (wrap64 (50 + (Int.tmod (wrap64 (a2)) 900)))] rfl (by (try simp only [List.map_toArray, List.map_cons, List.map_nil]); first | done | rfl | (simp only [List.length_drop, List.length_take]; rfl)) ?_; (with_reducible refine (sequence_Lower.calls k1 _ _ x9_1 (wrap64 (50 + (Int.tmod (wrap64 (a2)) 900))) t385 _ ?side1 ?side2 A14.out).mono ?_); (case side1 => repeat (first | exact (Kd.R_reads' HO_9.out).2.2 | (with_reducible refine Kd.C_alloc ?_ _) | (with_reducible refine Kd.C_drewN ?_ _) | (with_reducible refine Kd.C_drew ?_))); (case side2 => exact (Kd.R_reads' HO_9.out).2.1); rintro e w32 ⟨rfl, hb⟩; refine ⟨_, rfl, ?_⟩; have n0_ := Aside0.mk (Kd.R_below (by (with_reducible repeat (first | apply Kd.R_alloc | apply Kd.R_drewN | apply Kd.R_drew)); exact HO_9.out) hb); have n1_ := Aside0.mk (blk_below (g := gb381) (o := .cells #[.int .i64 (wrap64 ((Int.tmod (wrap64 (a1)) (wrap64 ((wrap64 (2 * (wrap64 (1 + (Int.tmod (wrap64 (a0)) 10))))) + 1))) - (wrap64 (1 + (Int.tmod (wrap64 (a0)) 10))))), .int .i64 (wrap64 (1 + (Int.tmod (wrap64 (a0)) 10))), .int .i64 (wrap64 (2 * (wrap64 (1 + (Int.tmod (wrap64 (a0)) 10)))))] 50 (0, 0)) (by (with_reducible repeat (first | refine blk_drewN ?_ _ | refine blk_drew ?_ | refine blk_alloc ?_ _)); exact BK381.out) hb); have n2_ := Aside0.mk (below_step (by repeat (first | (with_reducible first | exact HB.out | apply below_alloc | apply pw_below_drewN | apply below_drew1 | refine below_set ?_ GE381.out) | exact HB.out)) hb); clear HO_9; clear BK381; clear HB; have HO_9 := n0_; have BK381 := n1_; have HB := n2_; clear n0_ n1_ n2_; (try clear hb); (try clear hb2); (try clear hk); (try clear hi)) | ((with_reducible refine gate_callee (f := 20) rfl ?_); refine goesL_ (some 49) rfl rfl Try.func20 (by kernel_rfl) rfl #[.slice Ao31 x9_1.length co31, .int .i64 (wrap64 (50 + (Int.tmod (wrap64 (a2)) 900)))] rfl (by (try simp only [List.map_toArray, List.map_cons, List.map_nil]); first | done | rfl | (simp only [List.length_drop, List.length_take]; rfl)) ?_; (with_reducible refine (sequence_Upper.calls k1 _ _ x9_1 (wrap64 (50 + (Int.tmod (wrap64 (a2)) 900))) t386 _ ?side1 ?side2 A15.out).mono ?_); (case side1 => repeat (first | exact (Kd.R_reads' HO_9.out).2.2 | (with_reducible refine Kd.C_alloc ?_ _) | (with_reducible refine Kd.C_drewN ?_ _) | (with_reducible refine Kd.C_drew ?_))); (case side2 => exact (Kd.R_reads' HO_9.out).2.1); rintro e w33 ⟨rfl, hb⟩; refine ⟨_, rfl, ?_⟩; have n0_ := Aside0.mk (Kd.R_below (by (with_reducible repeat (first | apply Kd.R_alloc | apply Kd.R_drewN | apply Kd.R_drew)); exact HO_9.out) hb); have n1_ := Aside0.mk (blk_below (g := gb381) (o := .cells #[.int .i64 (wrap64 ((Int.tmod (wrap64 (a1)) (wrap64 ((wrap64 (2 * (wrap64 (1 + (Int.tmod (wrap64 (a0)) 10))))) + 1))) - (wrap64 (1 + (Int.tmod (wrap64 (a0)) 10))))), .int .i64 (wrap64 (1 + (Int.tmod (wrap64 (a0)) 10))), .int .i64 (wrap64 (2 * (wrap64 (1 + (Int.tmod (wrap64 (a0)) 10)))))] 50 (0, 0)) (by (with_reducible repeat (first | refine blk_drewN ?_ _ | refine blk_drew ?_ | refine blk_alloc ?_ _)); exact BK381.out) hb); have n2_ := Aside0.mk (below_step (by repeat (first | (with_reducible first | exact HB.out | apply below_alloc | apply pw_below_drewN | apply below_drew1 | refine below_set ?_ GE381.out) | exact HB.out)) hb); clear HO_9; clear BK381; clear HB; have HO_9 := n0_; have BK381 := n1_; have HB := n2_; clear n0_ n1_ n2_; (try clear hb); (try clear hb2); (try clear hk); (try clear hi); have hcz34_0 : w33.cell? ⟨gb381, 0, none⟩ = some (.int .i64 (wrap64 ((Int.tmod (wrap64 (a1)) (wrap64 ((wrap64 (2 * (wrap64 (1 + (Int.tmod (wrap64 (a0)) 10))))) + 1))) - (wrap64 (1 + (Int.tmod (wrap64 (a0)) 10)))))) := (blk_cell BK381.out 0).trans rfl; have hcz34_1 : w33.cell? ⟨gb381, 1, none⟩ = some (.int .i64 (wrap64 (1 + (Int.tmod (wrap64 (a0)) 10)))) := (blk_cell BK381.out 1).trans rfl; have hcz34_2 : w33.cell? ⟨gb381, 2, none⟩ = some (.int .i64 (wrap64 (2 * (wrap64 (1 + (Int.tmod (wrap64 (a0)) 10)))))) := (blk_cell BK381.out 2).trans rfl; have hfz34_0 := blk_frozen BK381.out 0; have hfz34_1 := blk_frozen BK381.out 1; have hfz34_2 := blk_frozen BK381.out 2))
              go_ret
              exact ⟨by first | rfl | (simp [errW_none, errW_some] <;> rfl) | (simp [*, errW_none, errW_some] <;> rfl), by repeat (first | (with_reducible first | exact HB.out | apply below_alloc | apply pw_below_drewN | apply below_drew1 | refine below_set ?_ GE381.out) | exact HB.out)⟩
  · replace c5 := Bool.eq_false_iff.mpr c5
    subst c5
    have H1 : (some false) = some r := by rw [if_neg (show ¬ (false = true) by decide)] at H; exact H
    clear H
    have H := H1
    clear H1
    obtain rfl := Option.some.inj H
    go_enter Try.func8, Try.ntmps8
    go_wp2_with (first | ((with_reducible refine gate_callee (f := 10) rfl ?_); refine goesL_ (some 14) rfl rfl Try.func10 (by kernel_rfl) rfl #[] rfl (by (try simp only [List.map_toArray, List.map_cons, List.map_nil]); first | done | rfl | (simp only [List.length_drop, List.length_take]; rfl)) ?_; (with_reducible refine (flagstonelaw41_awake.calls k  false _ A4.out).mono ?_); rintro e w35 ⟨rfl, hb⟩; refine ⟨_, rfl, ?_⟩; have n0_ := Aside0.mk (below_step (by repeat (first | (with_reducible first | exact HB.out | apply below_alloc | apply pw_below_drewN | apply below_drew1) | exact HB.out)) hb); clear HB; have HB := n0_; clear n0_; (try clear hb); (try clear hb2); (try clear hk); (try clear hi)))
    go_ret
    exact ⟨by first | rfl | (simp [errW_none, errW_some] <;> rfl) | (simp [*, errW_none, errW_some] <;> rfl), by repeat (first | (with_reducible first | exact HB.out | apply below_alloc | apply pw_below_drewN | apply below_drew1) | exact HB.out)⟩

/-- THE ONE PURE STATEMENT of flagstonelaw41_SequenceTruth: yours. -/
def flagstonelaw41_SequenceTruth.Pure : Prop := ∀ (a0 : Int) (a1 : Int) (a2 : Int), (Lit.int .u8 a0).wf = true → (Lit.int .u8 a1).wf = true → (Lit.int .u16 a2).wf = true → ∃ k, flagstonelaw41_SequenceTruth.f k a0 a1 a2 = some true
theorem flagstonelaw41_SequenceTruth.walk (P : flagstonelaw41_SequenceTruth.Pure) (a0 : Int) (a1 : Int) (a2 : Int) (w : World) (w0 : (Lit.int .u8 a0).wf = true) (w1 : (Lit.int .u8 a1).wf = true) (w2 : (Lit.int .u16 a2).wf = true) :
    Calls Try.prog 8 #[.int .u8 a0, .int .u8 a1, .int .u16 a2] w fun e w' => e = .returned (.bool true) ∧ Below w.heap.size w w' := by
  obtain ⟨k, h⟩ := P a0 a1 a2 w0 w1 w2
  refine (flagstonelaw41_SequenceTruth.calls k a0 a1 a2 true w h).mono ?_
  rintro e w' ⟨rfl, hd⟩
  exact ⟨rfl, hd⟩

end Go.Proofs.Ytdclcdaoidbgbaa.PA
