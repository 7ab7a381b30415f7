-- Written by a program of this seat's session (wip/tools/ownprint.py, over the kit's printer) out of the translation: functions and their contracts.
import Derived.Test.YthkgjkmcmkpkcaaPA0
import Derived.Test.YthkgjkmcmkpkcaaPA3
import Derived.Test.YthkgjkmcmkpkcaaPA7
namespace Go.Proofs.Ythkgjkmcmkpkcaa.PA
open Go.RowKit Go.Proofs.YthkgjkmcmkpkcaaW.PrintWords Go.Proofs.YthkgjkmcmkpkcaaW.PrintLast Go.Proofs.YthkgjkmcmkpkcaaW.PrintMore
attribute [local go_sem] max2_int min2_int max_two min_two max_three min_three max_four min_four   -- for this text's walks alone
set_option linter.unusedVariables false
set_option linter.unusedSimpArgs false

/-! ### flagstonelaw42_BalanceFinds: function 7 -/
def flagstonelaw42_BalanceFinds.l0 : Nat → Bool → Int → List (S47) → Int → Option (Bool)
  | 0, _, _, _, _ => none
  | k + 1, x0, x1, x5, x6 => if x6 < (wrap64 (12 + (Int.tmod (wrap64 (x1)) 20))) then (if x0 = true then (if x5.length < 2199023255552 then (flagstonelaw42_BalanceFinds.l0 k x0 x1 (x5 ++ [(⟨(⟨#[]⟩ : ByteArray), (⟨#[]⟩ : ByteArray), 0, 0, 2, 1⟩ : S47)]) (wrap64 (x6 + 1))) else (none)) else (if x5.length < 2199023255552 then (flagstonelaw42_BalanceFinds.l0 k x0 x1 (x5 ++ [(⟨(⟨#[]⟩ : ByteArray), (⟨#[]⟩ : ByteArray), 0, 0, 1, 1⟩ : S47)]) (wrap64 (x6 + 1))) else (none))) else ((some (([(⟨1, 5000, 5000⟩ : S41)] : List (S41)) : List (S41))).bind fun y215 => ((balance_Alarm.f k x5 y215 50).bind fun t218 => (if t218 > 1 then (if t218 ≤ 12 then (if 1 ≤ (x5.length : Int) then ((balance_Alarm.f k (x5.take 1) y215 999).bind fun t223 => (if t223 = 0 then (if 0 ≤ (wrap64 (t218 - 1)) then (if (wrap64 (t218 - 1)) ≤ (x5.length : Int) then ((balance_Alarm.f k (x5.take ((wrap64 (t218 - 1)) : Int).toNat) y215 50).bind fun t228 => (some (t228 == 0))) else (none)) else (none)) else (some false))) else (none)) else (some false)) else (some false))))
def flagstonelaw42_BalanceFinds.f (k : Nat) (a0 : Bool) (a1 : Int) : Option (Bool) := (flagstonelaw42_awake.f k).bind fun t207 => (if t207 = true then (flagstonelaw42_BalanceFinds.l0 k a0 a1 ([] : List (S47)) 0) else (some false))
theorem flagstonelaw42_BalanceFinds.mono_l : ∀ k, (∀ y0 y1 y2 y3, LeO (flagstonelaw42_BalanceFinds.l0 k y0 y1 y2 y3) (flagstonelaw42_BalanceFinds.l0 (k + 1) y0 y1 y2 y3))
  | 0 => fun _ _ _ _ r h => by simp [flagstonelaw42_BalanceFinds.l0] at h
  | k + 1 => by
    have ih0 := flagstonelaw42_BalanceFinds.mono_l k
    · intro y0 y1 y2 y3
      unfold flagstonelaw42_BalanceFinds.l0
      repeat' first
      | (with_reducible exact ih0 _ _ _ _)
      | (with_reducible exact balance_Alarm.mono _ _ _ _)
      | (with_reducible exact flagstonelaw42_awake.mono _)
      | (with_reducible exact LeO.refl _)
      | (with_reducible exact LeO.none _)
      | (with_reducible refine LeO.ite ?_ ?_)
      | (with_reducible refine LeO.bind ?_ (fun _ => ?_))
      | exact ih0 _ _ _ _
      | exact balance_Alarm.mono _ _ _ _
      | exact flagstonelaw42_awake.mono _
      | exact LeO.none _
      | refine LeO.ite ?_ ?_
      | refine LeO.bind ?_ (fun _ => ?_)
theorem flagstonelaw42_BalanceFinds.mono : ∀ a0 a1 k, LeO (flagstonelaw42_BalanceFinds.f k a0 a1) (flagstonelaw42_BalanceFinds.f (k + 1) a0 a1) := by
  intro a0 a1 k
  have ih0 := flagstonelaw42_BalanceFinds.mono_l k
  unfold flagstonelaw42_BalanceFinds.f
  repeat' first
      | (with_reducible exact ih0 _ _ _ _)
      | (with_reducible exact balance_Alarm.mono _ _ _ _)
      | (with_reducible exact flagstonelaw42_awake.mono _)
      | (with_reducible exact LeO.refl _)
      | (with_reducible exact LeO.none _)
      | (with_reducible refine LeO.ite ?_ ?_)
      | (with_reducible refine LeO.bind ?_ (fun _ => ?_))
      | exact ih0 _ _ _ _
      | exact balance_Alarm.mono _ _ _ _
      | exact flagstonelaw42_awake.mono _
      | exact LeO.none _
      | refine LeO.ite ?_ ?_
      | refine LeO.bind ?_ (fun _ => ?_)
set_option maxHeartbeats 8000000 in
set_option maxRecDepth 100000 in
theorem flagstonelaw42_BalanceFinds.calls (k : Nat) (a0 : Bool) (a1 : Int) (r : Bool) (w : World) (h : flagstonelaw42_BalanceFinds.f k a0 a1 = some r) :
    Calls Try.prog 7 #[.bool a0, .int .u8 a1] w fun e w' => e = .returned (.bool r) ∧ Below w.heap.size w w' := by
  have hu47 := Try.underlying47
  have hu41 := Try.underlying41
  have HB := Aside0.mk (Below.refl w.heap.size w)
  have H : ((flagstonelaw42_awake.f k).bind fun t207 => (if t207 = true then (flagstonelaw42_BalanceFinds.l0 k a0 a1 ([] : List (S47)) 0) else (some false))) = some r := h
  clear h
  replace H := Option.bind_eq_some_iff.mp H
  obtain ⟨t207, A30, H⟩ := H
  replace H : (if t207 = true then (flagstonelaw42_BalanceFinds.l0 k a0 a1 ([] : List (S47)) 0) else (some false)) = some r := H
  have A3 := Aside0.mk A30
  clear A30
  by_cases c4 : t207 = true
  · subst c4
    have H1 : (flagstonelaw42_BalanceFinds.l0 k a0 a1 ([] : List (S47)) 0) = some r := by rw [if_pos rfl] at H; exact H
    clear H
    have H := H1
    clear H1
    have H' := Aside0.mk H
    clear H
    go_enter Try.func7, Try.ntmps7
    go_wp2_with (first | ((with_reducible refine gate_callee (f := 8) rfl ?_); refine goesL_ (some 10) rfl rfl Try.func8 (by kernel_rfl) rfl #[] rfl (by (try simp only [List.map_toArray, List.map_cons, List.map_nil]); first | done | rfl | (simp only [List.length_drop, List.length_take]; rfl) | (simp only [KY31.out, KY33.out]; rfl) | (simp only [KY31.out, KY40.out]; rfl) | (simp only [KY33.out, KY40.out]; rfl)) ?_; (with_reducible refine (flagstonelaw42_awake.calls k  true _ A3.out).mono ?_); rintro e w5 ⟨rfl, hb⟩; refine ⟨_, rfl, ?_⟩; have n0_ := Aside0.mk (below_step (by repeat (first | (with_reducible first | exact HB.out | apply below_alloc | apply pw_below_drewN | apply below_drew1) | exact HB.out)) hb); clear HB; have HB := n0_; clear n0_; (try clear hb); (try clear hb2); (try clear hk); (try clear hi)))
    go_loopg [5, 6] k (fun kq v5 v6 w' => ∃ (x5_1 : List (S47)) (x6_1 : Int), v6 = .int .i64 x6_1 ∧ Aside0 (flagstonelaw42_BalanceFinds.l0 kq a0 a1 x5_1 x6_1 = some r) ∧ Aside0 (kq ≤ k) ∧ Aside0 (Kd.R k47 47 w' w.heap.size (fun _ => True) v5 x5_1) ∧ Aside0 (Below w.heap.size w w'))
    case atStart => exact ⟨(([] : List (S47))), (0), (by first | rfl | (simp; done) | (simp [*]; done) | exact congrArg (Value.int _) (by unfold wrap64; omega)), H', ⟨Nat.le_refl _⟩, ⟨by first | exact Kd.R_nil _ _ _ _ _ | exact Kd.N_nil _ _ _ _ _ | exact Kd.V_nil _ _ _ _ _ | exact Kd.Q_nil _ _ _ _ _ | exact Kd.S_nil _ _ _ _ _⟩, ⟨by repeat (first | (with_reducible first | exact HB.out | apply below_alloc | apply pw_below_drewN | apply below_drew1) | exact HB.out)⟩⟩
    case round =>
      clear H'
      try clear p2
      try clear c4
      obtain ⟨x5_1, x6_1, rfl, HA, HK1, HO_5, HB⟩ := hrel
      cases gk with
      | zero => exact absurd HA.out (by simp [flagstonelaw42_BalanceFinds.l0])
      | succ k1 =>
        have H := HA.out
        clear HA
        simp only [flagstonelaw42_BalanceFinds.l0] at H
        by_cases c6 : x6_1 < (wrap64 (12 + (Int.tmod (wrap64 (a1)) 20)))
        · rw [if_pos c6] at H
          have c6b0 : decide (x6_1 < (wrap64 (12 + (Int.tmod (wrap64 (a1)) 20)))) = true := decide_eq_true c6
          clear c6
          by_cases c7 : a0 = true
          · subst c7
            have H1 : (if x5_1.length < 2199023255552 then (flagstonelaw42_BalanceFinds.l0 k1 true a1 (x5_1 ++ [(⟨(⟨#[]⟩ : ByteArray), (⟨#[]⟩ : ByteArray), 0, 0, 2, 1⟩ : S47)]) (wrap64 (x6_1 + 1))) else (none)) = some r := by rw [if_pos rfl] at H; exact H
            clear H
            have H := H1
            clear H1
            by_cases c8 : x5_1.length < 2199023255552
            · rw [if_pos c8] at H
              have LMc8 := Aside0.mk c8
              clear c8
              obtain ⟨y209, hy209⟩ : ∃ y_ : List (S47), y_ = (x5_1 ++ [(⟨(⟨#[]⟩ : ByteArray), (⟨#[]⟩ : ByteArray), 0, 0, 2, 1⟩ : S47)]) := ⟨_, rfl⟩
              replace H : (flagstonelaw42_BalanceFinds.l0 k1 true a1 y209 (wrap64 (x6_1 + 1))) = some r := by first | (rw [hy209]; with_reducible exact H) | (have H2_ := (Option.bind_some _ _).symm.trans H; rw [hy209]; with_reducible exact H2_) | (have H2_ := (Option.bind_some _ _).symm.trans H; with_reducible exact H2_) | with_reducible exact H | (rw [hy209]; exact H) | exact H
              have Ny209 := Aside0.mk hy209
              clear hy209
              have H' := Aside0.mk H
              clear H
              go_upto_region 8 with (first | ((with_reducible refine gate_dst (N := 7) rfl ?_); refine box_event ?hg (N := 7) ?hd (cs := #[.string (⟨#[]⟩ : ByteArray), .string (⟨#[]⟩ : ByteArray), .int .i64 0, .int .i64 0, .int .i64 0, .int .i64 0]) (t := 47) ?hr ?_; (case hd => rfl); (case hg => rfl); (case hr => first | (go_simp; done) | (go_simp; rfl)); intro gb208 hg w9 hbox hb; have n0_ := Aside0.mk (Kd.R_below (Kd.R_elderB (by (with_reducible repeat (first | apply Kd.R_alloc | apply Kd.R_drewN | apply Kd.R_drew)); exact HO_5.out) gb208 (Nat.le_of_eq hg.symm)) hb); have n1_ := Aside0.mk (below_step (by repeat (first | (with_reducible first | exact HB.out | apply below_alloc | apply pw_below_drewN | apply below_drew1) | exact HB.out)) hb); have n2_ := Aside0.mk (hbox); have n3_ := Aside0.mk ((by rw [hg]; exact (below_size (by repeat (first | (with_reducible first | exact HB.out | apply below_alloc | apply pw_below_drewN | apply below_drew1) | exact HB.out))) : w.heap.size ≤ gb208)); have n4_ := Aside0.mk ((by rw [hg]; exact (below_size (by repeat (first | (with_reducible first | exact HB.out | apply below_alloc | apply pw_below_drewN | apply below_drew1) | exact HB.out))) : w.heap.size ≤ gb208)); clear HO_5; clear HB; have HO_5 := n0_; have HB := n1_; have BK208 := n2_; have GW208 := n3_; have GE208 := n4_; clear n0_ n1_ n2_ n3_ n4_; clear hb hbox hg; have hcz10_0 : w9.cell? ⟨gb208, 0, none⟩ = some (.string (⟨#[]⟩ : ByteArray)) := (blk_cell BK208.out 0).trans rfl; have hcz10_1 : w9.cell? ⟨gb208, 1, none⟩ = some (.string (⟨#[]⟩ : ByteArray)) := (blk_cell BK208.out 1).trans rfl; have hcz10_2 : w9.cell? ⟨gb208, 2, none⟩ = some (.int .i64 0) := (blk_cell BK208.out 2).trans rfl; have hcz10_3 : w9.cell? ⟨gb208, 3, none⟩ = some (.int .i64 0) := (blk_cell BK208.out 3).trans rfl; have hcz10_4 : w9.cell? ⟨gb208, 4, none⟩ = some (.int .i64 0) := (blk_cell BK208.out 4).trans rfl; have hcz10_5 : w9.cell? ⟨gb208, 5, none⟩ = some (.int .i64 0) := (blk_cell BK208.out 5).trans rfl; have hfz10_0 := blk_frozen BK208.out 0; have hfz10_1 := blk_frozen BK208.out 1; have hfz10_2 := blk_frozen BK208.out 2; have hfz10_3 := blk_frozen BK208.out 3; have hfz10_4 := blk_frozen BK208.out 4; have hfz10_5 := blk_frozen BK208.out 5))
              skip
              have BKn := Aside0.mk (store6 (a0 := .string (⟨#[]⟩ : ByteArray)) (a1 := .string (⟨#[]⟩ : ByteArray)) (a2 := .int .i64 0) (a3 := .int .i64 0) (a4 := .int .i64 1) (a5 := .int .i64 1) BK208.out)
              have HBn := Aside0.mk (below_set (j := 5) (v := .int .i64 1) (below_set (j := 4) (v := .int .i64 1) (below_set (j := 3) (v := .int .i64 0) (below_set (j := 2) (v := .int .i64 0) (below_set (j := 1) (v := .string (⟨#[]⟩ : ByteArray)) (below_set (j := 0) (v := .string (⟨#[]⟩ : ByteArray)) HB.out GE208.out) GE208.out) GE208.out) GE208.out) GE208.out) GE208.out)
              have HOn := Aside0.mk (Kd.R_far (p := ⟨gb208, 5, none⟩) (Kd.R_far (p := ⟨gb208, 4, none⟩) (Kd.R_far (p := ⟨gb208, 3, none⟩) (Kd.R_far (p := ⟨gb208, 2, none⟩) (Kd.R_far (p := ⟨gb208, 1, none⟩) (Kd.R_far (p := ⟨gb208, 0, none⟩) HO_5.out (fun _ hk => hk.2) (.string (⟨#[]⟩ : ByteArray))) (fun _ hk => hk.2) (.string (⟨#[]⟩ : ByteArray))) (fun _ hk => hk.2) (.int .i64 0)) (fun _ hk => hk.2) (.int .i64 0)) (fun _ hk => hk.2) (.int .i64 1)) (fun _ hk => hk.2) (.int .i64 1))
              clear hcz10_0 hfz10_0 hcz10_1 hfz10_1 hcz10_2 hfz10_2 hcz10_3 hfz10_3 hcz10_4 hfz10_4 hcz10_5 hfz10_5 BK208 HB HO_5
              generalize (((((w9.setCell ⟨gb208, 0, none⟩ (.string (⟨#[]⟩ : ByteArray))).setCell ⟨gb208, 1, none⟩ (.string (⟨#[]⟩ : ByteArray))).setCell ⟨gb208, 2, none⟩ (.int .i64 0)).setCell ⟨gb208, 3, none⟩ (.int .i64 0)).setCell ⟨gb208, 4, none⟩ (.int .i64 1)).setCell ⟨gb208, 5, none⟩ (.int .i64 1) = w10 at BKn HBn HOn ⊢
              have hc0 : w10.cell? ⟨gb208, 0, none⟩ = some (.string (⟨#[]⟩ : ByteArray)) := (blk_cell BKn.out 0).trans rfl
              have hf0 := blk_frozen BKn.out 0
              have hc1 : w10.cell? ⟨gb208, 1, none⟩ = some (.string (⟨#[]⟩ : ByteArray)) := (blk_cell BKn.out 1).trans rfl
              have hf1 := blk_frozen BKn.out 1
              have hc2 : w10.cell? ⟨gb208, 2, none⟩ = some (.int .i64 0) := (blk_cell BKn.out 2).trans rfl
              have hf2 := blk_frozen BKn.out 2
              have hc3 : w10.cell? ⟨gb208, 3, none⟩ = some (.int .i64 0) := (blk_cell BKn.out 3).trans rfl
              have hf3 := blk_frozen BKn.out 3
              have hc4 : w10.cell? ⟨gb208, 4, none⟩ = some (.int .i64 1) := (blk_cell BKn.out 4).trans rfl
              have hf4 := blk_frozen BKn.out 4
              have hc5 : w10.cell? ⟨gb208, 5, none⟩ = some (.int .i64 1) := (blk_cell BKn.out 5).trans rfl
              have hf5 := blk_frozen BKn.out 5
              go_wp2_with (first | ((with_reducible refine gate_builtin (b := .append) (xs := #[.tmp 23, .tmp 25]) rfl ?_); at_builtin; refine Kd.R_append k47 (w0 := w) w.heap.size rfl (.tmp 23) (.tmp 25) 37 47 (.agg #[(.string ⟨#[]⟩), (.string ⟨#[]⟩), (.int .i64 0), (.int .i64 0), (.int .i64 0), (.int .i64 0)]) 64 rfl Try.underlying37 info47 rfl (by decide) (by omega) u5 x5_1 (⟨(⟨#[]⟩ : ByteArray), (⟨#[]⟩ : ByteArray), 0, 0, 2, 1⟩ : S47) [.string (⟨#[]⟩ : ByteArray), .string (⟨#[]⟩ : ByteArray), .int .i64 0, .int .i64 0, .int .i64 2, .int .i64 1] (fun k_ => k_ ≠ gb208) (fun _ => False) rfl (by first | (go_simp; done) | (go_simp; rfl)) ?aP (fun _ hk => hk.elim) ?aF ?aO ?aB ?aS ?aL ?_; (case aP => exact k47_mkM _ _ _ (⟨(⟨#[]⟩ : ByteArray), (⟨#[]⟩ : ByteArray), 0, 0, 2, 1⟩ : S47)); (case aB => exact (below_set (j := 4) (v := .int .i64 2) HBn.out GE208.out)); (case aF => exact (fun k_ hk => Kd.freshB (g := gb208) (blk_put (cs := #[.string (⟨#[]⟩ : ByteArray), .string (⟨#[]⟩ : ByteArray), .int .i64 0, .int .i64 0, .int .i64 1, .int .i64 1]) BKn.out 4 _ rfl) k_ hk)); (case aO => exact Kd.R_mono (Kd.R_far (p := ⟨gb208, 4, none⟩) HOn.out (fun _ hk => hk.2) (.int .i64 2)) (fun _ hk => hk.2)); (case aS => exact below_size (below_set (j := 4) (v := .int .i64 2) HBn.out GE208.out)); (case aL => have := LMc8.out; omega); intro v210 w11 ho hb hg hat; rw [← Ny209.out] at ho; have HB := Aside0.mk hb; have HO_6 := Aside0.mk ho; clear ho hb hg hat))
              go_roundg k1
              case measure => have := HK1.out; omega
              case rel => exact ⟨(y209), (wrap64 (x6_1 + 1)), (by first | rfl | (simp; done) | exact congrArg (Value.int _) (by unfold wrap64; omega)), H', ⟨by have := HK1.out; omega⟩, ⟨Kd.R_mono HO_6.out (fun _ hk => trivial)⟩, HB⟩
            · rw [if_neg c8] at H
              exact absurd H (by simp)
          · replace c7 := Bool.eq_false_iff.mpr c7
            subst c7
            have H1 : (if x5_1.length < 2199023255552 then (flagstonelaw42_BalanceFinds.l0 k1 false a1 (x5_1 ++ [(⟨(⟨#[]⟩ : ByteArray), (⟨#[]⟩ : ByteArray), 0, 0, 1, 1⟩ : S47)]) (wrap64 (x6_1 + 1))) else (none)) = some r := by rw [if_neg (show ¬ (false = true) by decide)] at H; exact H
            clear H
            have H := H1
            clear H1
            by_cases c12 : x5_1.length < 2199023255552
            · rw [if_pos c12] at H
              have LMc12 := Aside0.mk c12
              clear c12
              obtain ⟨y212, hy212⟩ : ∃ y_ : List (S47), y_ = (x5_1 ++ [(⟨(⟨#[]⟩ : ByteArray), (⟨#[]⟩ : ByteArray), 0, 0, 1, 1⟩ : S47)]) := ⟨_, rfl⟩
              replace H : (flagstonelaw42_BalanceFinds.l0 k1 false a1 y212 (wrap64 (x6_1 + 1))) = some r := by first | (rw [hy212]; with_reducible exact H) | (have H2_ := (Option.bind_some _ _).symm.trans H; rw [hy212]; with_reducible exact H2_) | (have H2_ := (Option.bind_some _ _).symm.trans H; with_reducible exact H2_) | with_reducible exact H | (rw [hy212]; exact H) | exact H
              have Ny212 := Aside0.mk hy212
              clear hy212
              have H' := Aside0.mk H
              clear H
              go_upto_region 8 with (first | ((with_reducible refine gate_dst (N := 7) rfl ?_); refine box_event ?hg (N := 7) ?hd (cs := #[.string (⟨#[]⟩ : ByteArray), .string (⟨#[]⟩ : ByteArray), .int .i64 0, .int .i64 0, .int .i64 0, .int .i64 0]) (t := 47) ?hr ?_; (case hd => rfl); (case hg => rfl); (case hr => first | (go_simp; done) | (go_simp; rfl)); intro gb208 hg w13 hbox hb; have n0_ := Aside0.mk (Kd.R_below (Kd.R_elderB (by (with_reducible repeat (first | apply Kd.R_alloc | apply Kd.R_drewN | apply Kd.R_drew)); exact HO_5.out) gb208 (Nat.le_of_eq hg.symm)) hb); have n1_ := Aside0.mk (below_step (by repeat (first | (with_reducible first | exact HB.out | apply below_alloc | apply pw_below_drewN | apply below_drew1) | exact HB.out)) hb); have n2_ := Aside0.mk (hbox); have n3_ := Aside0.mk ((by rw [hg]; exact (below_size (by repeat (first | (with_reducible first | exact HB.out | apply below_alloc | apply pw_below_drewN | apply below_drew1) | exact HB.out))) : w.heap.size ≤ gb208)); have n4_ := Aside0.mk ((by rw [hg]; exact (below_size (by repeat (first | (with_reducible first | exact HB.out | apply below_alloc | apply pw_below_drewN | apply below_drew1) | exact HB.out))) : w.heap.size ≤ gb208)); clear HO_5; clear HB; have HO_5 := n0_; have HB := n1_; have BK208 := n2_; have GW208 := n3_; have GE208 := n4_; clear n0_ n1_ n2_ n3_ n4_; clear hb hbox hg; have hcz14_0 : w13.cell? ⟨gb208, 0, none⟩ = some (.string (⟨#[]⟩ : ByteArray)) := (blk_cell BK208.out 0).trans rfl; have hcz14_1 : w13.cell? ⟨gb208, 1, none⟩ = some (.string (⟨#[]⟩ : ByteArray)) := (blk_cell BK208.out 1).trans rfl; have hcz14_2 : w13.cell? ⟨gb208, 2, none⟩ = some (.int .i64 0) := (blk_cell BK208.out 2).trans rfl; have hcz14_3 : w13.cell? ⟨gb208, 3, none⟩ = some (.int .i64 0) := (blk_cell BK208.out 3).trans rfl; have hcz14_4 : w13.cell? ⟨gb208, 4, none⟩ = some (.int .i64 0) := (blk_cell BK208.out 4).trans rfl; have hcz14_5 : w13.cell? ⟨gb208, 5, none⟩ = some (.int .i64 0) := (blk_cell BK208.out 5).trans rfl; have hfz14_0 := blk_frozen BK208.out 0; have hfz14_1 := blk_frozen BK208.out 1; have hfz14_2 := blk_frozen BK208.out 2; have hfz14_3 := blk_frozen BK208.out 3; have hfz14_4 := blk_frozen BK208.out 4; have hfz14_5 := blk_frozen BK208.out 5))
              skip
              have BKn := Aside0.mk (store6 (a0 := .string (⟨#[]⟩ : ByteArray)) (a1 := .string (⟨#[]⟩ : ByteArray)) (a2 := .int .i64 0) (a3 := .int .i64 0) (a4 := .int .i64 1) (a5 := .int .i64 1) BK208.out)
              have HBn := Aside0.mk (below_set (j := 5) (v := .int .i64 1) (below_set (j := 4) (v := .int .i64 1) (below_set (j := 3) (v := .int .i64 0) (below_set (j := 2) (v := .int .i64 0) (below_set (j := 1) (v := .string (⟨#[]⟩ : ByteArray)) (below_set (j := 0) (v := .string (⟨#[]⟩ : ByteArray)) HB.out GE208.out) GE208.out) GE208.out) GE208.out) GE208.out) GE208.out)
              have HOn := Aside0.mk (Kd.R_far (p := ⟨gb208, 5, none⟩) (Kd.R_far (p := ⟨gb208, 4, none⟩) (Kd.R_far (p := ⟨gb208, 3, none⟩) (Kd.R_far (p := ⟨gb208, 2, none⟩) (Kd.R_far (p := ⟨gb208, 1, none⟩) (Kd.R_far (p := ⟨gb208, 0, none⟩) HO_5.out (fun _ hk => hk.2) (.string (⟨#[]⟩ : ByteArray))) (fun _ hk => hk.2) (.string (⟨#[]⟩ : ByteArray))) (fun _ hk => hk.2) (.int .i64 0)) (fun _ hk => hk.2) (.int .i64 0)) (fun _ hk => hk.2) (.int .i64 1)) (fun _ hk => hk.2) (.int .i64 1))
              clear hcz14_0 hfz14_0 hcz14_1 hfz14_1 hcz14_2 hfz14_2 hcz14_3 hfz14_3 hcz14_4 hfz14_4 hcz14_5 hfz14_5 BK208 HB HO_5
              generalize (((((w13.setCell ⟨gb208, 0, none⟩ (.string (⟨#[]⟩ : ByteArray))).setCell ⟨gb208, 1, none⟩ (.string (⟨#[]⟩ : ByteArray))).setCell ⟨gb208, 2, none⟩ (.int .i64 0)).setCell ⟨gb208, 3, none⟩ (.int .i64 0)).setCell ⟨gb208, 4, none⟩ (.int .i64 1)).setCell ⟨gb208, 5, none⟩ (.int .i64 1) = w10 at BKn HBn HOn ⊢
              have hc0 : w10.cell? ⟨gb208, 0, none⟩ = some (.string (⟨#[]⟩ : ByteArray)) := (blk_cell BKn.out 0).trans rfl
              have hf0 := blk_frozen BKn.out 0
              have hc1 : w10.cell? ⟨gb208, 1, none⟩ = some (.string (⟨#[]⟩ : ByteArray)) := (blk_cell BKn.out 1).trans rfl
              have hf1 := blk_frozen BKn.out 1
              have hc2 : w10.cell? ⟨gb208, 2, none⟩ = some (.int .i64 0) := (blk_cell BKn.out 2).trans rfl
              have hf2 := blk_frozen BKn.out 2
              have hc3 : w10.cell? ⟨gb208, 3, none⟩ = some (.int .i64 0) := (blk_cell BKn.out 3).trans rfl
              have hf3 := blk_frozen BKn.out 3
              have hc4 : w10.cell? ⟨gb208, 4, none⟩ = some (.int .i64 1) := (blk_cell BKn.out 4).trans rfl
              have hf4 := blk_frozen BKn.out 4
              have hc5 : w10.cell? ⟨gb208, 5, none⟩ = some (.int .i64 1) := (blk_cell BKn.out 5).trans rfl
              have hf5 := blk_frozen BKn.out 5
              go_wp2_with (first | ((with_reducible refine gate_builtin (b := .append) (xs := #[.tmp 23, .tmp 25]) rfl ?_); at_builtin; refine Kd.R_append k47 (w0 := w) w.heap.size rfl (.tmp 23) (.tmp 25) 37 47 (.agg #[(.string ⟨#[]⟩), (.string ⟨#[]⟩), (.int .i64 0), (.int .i64 0), (.int .i64 0), (.int .i64 0)]) 64 rfl Try.underlying37 info47 rfl (by decide) (by omega) u5 x5_1 (⟨(⟨#[]⟩ : ByteArray), (⟨#[]⟩ : ByteArray), 0, 0, 1, 1⟩ : S47) [.string (⟨#[]⟩ : ByteArray), .string (⟨#[]⟩ : ByteArray), .int .i64 0, .int .i64 0, .int .i64 1, .int .i64 1] (fun k_ => k_ ≠ gb208) (fun _ => False) rfl (by first | (go_simp; done) | (go_simp; rfl)) ?aP (fun _ hk => hk.elim) ?aF ?aO ?aB ?aS ?aL ?_; (case aP => exact k47_mkM _ _ _ (⟨(⟨#[]⟩ : ByteArray), (⟨#[]⟩ : ByteArray), 0, 0, 1, 1⟩ : S47)); (case aB => exact HBn.out); (case aF => exact (fun k_ hk => Kd.freshB (g := gb208) BKn.out k_ hk)); (case aO => exact Kd.R_mono HOn.out (fun _ hk => hk.2)); (case aS => exact below_size HBn.out); (case aL => have := LMc12.out; omega); intro v213 w11 ho hb hg hat; rw [← Ny212.out] at ho; have HB := Aside0.mk hb; have HO_6 := Aside0.mk ho; clear ho hb hg hat))
              go_roundg k1
              case measure => have := HK1.out; omega
              case rel => exact ⟨(y212), (wrap64 (x6_1 + 1)), (by first | rfl | (simp; done) | exact congrArg (Value.int _) (by unfold wrap64; omega)), H', ⟨by have := HK1.out; omega⟩, ⟨Kd.R_mono HO_6.out (fun _ hk => trivial)⟩, HB⟩
            · rw [if_neg c12] at H
              exact absurd H (by simp)
        · rw [if_neg c6] at H
          have c6b0 : decide (x6_1 < (wrap64 (12 + (Int.tmod (wrap64 (a1)) 20)))) = false := decide_eq_false c6
          clear c6
          obtain ⟨y215, hy215⟩ : ∃ y_ : List (S41), y_ = (([(⟨1, 5000, 5000⟩ : S41)] : List (S41))) := ⟨_, rfl⟩
          replace H : ((balance_Alarm.f k1 x5_1 y215 50).bind fun t218 => (if t218 > 1 then (if t218 ≤ 12 then (if 1 ≤ (x5_1.length : Int) then ((balance_Alarm.f k1 (x5_1.take 1) y215 999).bind fun t223 => (if t223 = 0 then (if 0 ≤ (wrap64 (t218 - 1)) then (if (wrap64 (t218 - 1)) ≤ (x5_1.length : Int) then ((balance_Alarm.f k1 (x5_1.take ((wrap64 (t218 - 1)) : Int).toNat) y215 50).bind fun t228 => (some (t228 == 0))) else (none)) else (none)) else (some false))) else (none)) else (some false)) else (some false))) = some r := by first | (rw [hy215]; with_reducible exact H) | (have H2_ := (Option.bind_some _ _).symm.trans H; rw [hy215]; with_reducible exact H2_) | (have H2_ := (Option.bind_some _ _).symm.trans H; with_reducible exact H2_) | with_reducible exact H | (rw [hy215]; exact H) | exact H
          have Ny215 := Aside0.mk hy215
          clear hy215
          replace H := Option.bind_eq_some_iff.mp H
          obtain ⟨t218, A160, H⟩ := H
          replace H : (if t218 > 1 then (if t218 ≤ 12 then (if 1 ≤ (x5_1.length : Int) then ((balance_Alarm.f k1 (x5_1.take 1) y215 999).bind fun t223 => (if t223 = 0 then (if 0 ≤ (wrap64 (t218 - 1)) then (if (wrap64 (t218 - 1)) ≤ (x5_1.length : Int) then ((balance_Alarm.f k1 (x5_1.take ((wrap64 (t218 - 1)) : Int).toNat) y215 50).bind fun t228 => (some (t228 == 0))) else (none)) else (none)) else (some false))) else (none)) else (some false)) else (some false)) = some r := H
          have A16 := Aside0.mk A160
          clear A160
          by_cases c17 : t218 > 1
          · rw [if_pos c17] at H
            have c17b0 : decide (1 < t218) = true := decide_eq_true c17
            clear c17
            by_cases c18 : t218 ≤ 12
            · rw [if_pos c18] at H
              have c18b0 : decide (t218 ≤ 12) = true := decide_eq_true c18
              clear c18
              by_cases c19 : 1 ≤ (x5_1.length : Int)
              · rw [if_pos c19] at H
                have c19b0 := eq_true c19
                have c19b1 : decide (1 ≤ (x5_1.length : Int)) = true := decide_eq_true c19
                clear c19
                obtain ⟨y219, hy219⟩ : ∃ y_ : List (S47), y_ = (x5_1.take 1) := ⟨_, rfl⟩
                replace H : ((balance_Alarm.f k1 y219 y215 999).bind fun t223 => (if t223 = 0 then (if 0 ≤ (wrap64 (t218 - 1)) then (if (wrap64 (t218 - 1)) ≤ (x5_1.length : Int) then ((balance_Alarm.f k1 (x5_1.take ((wrap64 (t218 - 1)) : Int).toNat) y215 50).bind fun t228 => (some (t228 == 0))) else (none)) else (none)) else (some false))) = some r := by first | (rw [hy219]; with_reducible exact H) | (have H2_ := (Option.bind_some _ _).symm.trans H; rw [hy219]; with_reducible exact H2_) | (have H2_ := (Option.bind_some _ _).symm.trans H; with_reducible exact H2_) | with_reducible exact H | (rw [hy219]; exact H) | exact H
                have Ny219 := Aside0.mk hy219
                clear hy219
                replace H := Option.bind_eq_some_iff.mp H
                obtain ⟨t223, A200, H⟩ := H
                replace H : (if t223 = 0 then (if 0 ≤ (wrap64 (t218 - 1)) then (if (wrap64 (t218 - 1)) ≤ (x5_1.length : Int) then ((balance_Alarm.f k1 (x5_1.take ((wrap64 (t218 - 1)) : Int).toNat) y215 50).bind fun t228 => (some (t228 == 0))) else (none)) else (none)) else (some false)) = some r := H
                have A20 := Aside0.mk A200
                clear A200
                by_cases c21 : t223 = 0
                · rw [if_pos c21] at H
                  have c21b0 : (t223 == 0) = true := beq_iff_eq.mpr c21
                  have c21b1 : (t223 != 0) = false := bne_eq_false_iff_eq.mpr c21
                  clear c21
                  obtain ⟨ji22, hji22⟩ : ∃ j_ : Int, (wrap64 (t218 - 1)) = j_ := ⟨_, rfl⟩
                  replace H : (if 0 ≤ (ji22) then (if (ji22) ≤ (x5_1.length : Int) then ((balance_Alarm.f k1 (x5_1.take ((ji22) : Int).toNat) y215 50).bind fun t228 => (some (t228 == 0))) else (none)) else (none)) = some r := by first | (rw [hji22] at H; exact H) | (simp only [hji22] at H ⊢; exact H)
                  (try rw [hji22] at A16)
                  (try rw [hji22] at A20)
                  have hji22w : (IntKind.i64.wrap (t218 - 1)) = ji22 := (i64_w _).trans hji22
                  by_cases c23 : 0 ≤ (ji22)
                  · rw [if_pos c23] at H
                    have c23b0 := eq_true c23
                    have c23b1 : decide (0 ≤ (ji22)) = true := decide_eq_true c23
                    clear c23
                    by_cases c24 : (ji22) ≤ (x5_1.length : Int)
                    · rw [if_pos c24] at H
                      have c24b0 := eq_true c24
                      have c24b1 : decide ((ji22) ≤ (x5_1.length : Int)) = true := decide_eq_true c24
                      clear c24
                      obtain ⟨y224, hy224⟩ : ∃ y_ : List (S47), y_ = (x5_1.take ((ji22) : Int).toNat) := ⟨_, rfl⟩
                      replace H : ((balance_Alarm.f k1 y224 y215 50).bind fun t228 => (some (t228 == 0))) = some r := by first | (rw [hy224]; with_reducible exact H) | (have H2_ := (Option.bind_some _ _).symm.trans H; rw [hy224]; with_reducible exact H2_) | (have H2_ := (Option.bind_some _ _).symm.trans H; with_reducible exact H2_) | with_reducible exact H | (rw [hy224]; exact H) | exact H
                      have Ny224 := Aside0.mk hy224
                      clear hy224
                      replace H := Option.bind_eq_some_iff.mp H
                      obtain ⟨t228, A250, H⟩ := H
                      replace H : (some (t228 == 0)) = some r := H
                      have A25 := Aside0.mk A250
                      clear A250
                      obtain rfl := Option.some.inj H
                      go_wp2_with (first | ((with_reducible refine gate_dst (N := 28) rfl ?_); refine Kd.R_lit k41 _ 41 ?hg (N := 28) ?hd (xs := ([(⟨1, 5000, 5000⟩ : S41)] : List (S41))) (inner := [.int .i64 1, .int .i64 5000, .int .i64 5000]) (ok := fun _ => True) (okp := fun _ => True) ?hr ?hp (fun _ hk => hk) trivial (Below.refl _ _) (Nat.le_refl _) (by simp) ?_; (case hd => rfl); (case hg => rfl); (case hr => first | (go_simp; done) | (go_simp; rfl)); (case hp => exact (Reps.c3 (show Kd.M k41 _ _ _ (⟨1, 5000, 5000⟩ : S41) [.int .i64 1, .int .i64 5000, .int .i64 5000] from (k41_mkM _ _ _ (⟨1, 5000, 5000⟩ : S41) )) (Reps.none _ _))); intro v216 w26 ho27 hb hg_ hnew_; clear hg_ hnew_; (first | rw [← Ny215.out] at ho27 | (simp only [Int.reduceToNat] at ho27; rw [← Ny215.out] at ho27)); have n0_ := Aside0.mk (Kd.R_below (by (with_reducible repeat (first | apply Kd.R_alloc | apply Kd.R_drewN | apply Kd.R_drew)); exact HO_5.out) hb); have n1_ := Aside0.mk (Kd.R_lower ho27 (below_size (by repeat (first | (with_reducible first | exact HB.out | apply below_alloc | apply pw_below_drewN | apply below_drew1) | exact HB.out)))); have n2_ := Aside0.mk (below_step (by repeat (first | (with_reducible first | exact HB.out | apply below_alloc | apply pw_below_drewN | apply below_drew1) | exact HB.out)) hb); clear HO_5; clear HB; have HO_5 := n0_; have HO217 := n1_; have HB := n2_; clear n0_ n1_ n2_; clear hb ho27; obtain ⟨Ao28, co28, eo28⟩ := Kd.R_slice HO_5.out; subst eo28; obtain ⟨Ao29, co29, eo29⟩ := Kd.R_slice HO217.out; subst eo29) | ((with_reducible refine gate_callee (f := 17) rfl ?_); refine goesL_ (some 31) rfl rfl Try.func17 (by kernel_rfl) rfl #[.slice Ao28 x5_1.length co28, .slice Ao29 y215.length co29, .int .i64 50] rfl (by (try simp only [List.map_toArray, List.map_cons, List.map_nil]); first | done | rfl | (simp only [List.length_drop, List.length_take]; rfl) | (simp only [KY31.out, KY33.out]; rfl) | (simp only [KY31.out, KY40.out]; rfl) | (simp only [KY33.out, KY40.out]; rfl)) ?_; (with_reducible refine (balance_Alarm.calls k1 _ _ x5_1 _ _ y215 50 t218 _ ?side1 ?side2 ?side3 ?side4 A16.out).mono ?_); (case side1 => repeat (first | exact (Kd.R_reads' HO_5.out).2.2 | (with_reducible refine Kd.C_alloc ?_ _) | (with_reducible refine Kd.C_drewN ?_ _) | (with_reducible refine Kd.C_drew ?_))); (case side2 => exact (Kd.R_reads' HO_5.out).2.1); (case side3 => repeat (first | exact (Kd.R_reads' HO217.out).2.2 | (with_reducible refine Kd.C_alloc ?_ _) | (with_reducible refine Kd.C_drewN ?_ _) | (with_reducible refine Kd.C_drew ?_))); (case side4 => exact (Kd.R_reads' HO217.out).2.1); rintro e w30 ⟨rfl, hb⟩; refine ⟨_, rfl, ?_⟩; have n0_ := Aside0.mk (Kd.R_below (by (with_reducible repeat (first | apply Kd.R_alloc | apply Kd.R_drewN | apply Kd.R_drew)); exact HO_5.out) hb); have n1_ := Aside0.mk (Kd.R_below (by (with_reducible repeat (first | apply Kd.R_alloc | apply Kd.R_drewN | apply Kd.R_drew)); exact HO217.out) hb); have n2_ := Aside0.mk (below_step (by repeat (first | (with_reducible first | exact HB.out | apply below_alloc | apply pw_below_drewN | apply below_drew1) | exact HB.out)) hb); clear HO_5; clear HO217; clear HB; have HO_5 := n0_; have HO217 := n1_; have HB := n2_; clear n0_ n1_ n2_; (try clear hb); (try clear hb2); (try clear hk); (try clear hi); have q31 : (1 : Int) ≤ ((x5_1.length : Int) : Int) := of_decide_eq_true (by first | (with_reducible assumption) | assumption); obtain ⟨i031, hi031, _, hsz31, _⟩ := info_parts info47; have hroom31 : x5_1.length ≤ co28 := (Kd.R_reads' HO_5.out).2.1; have hC31 : Kd.C k47 _ Ao28 x5_1.length x5_1 := (Kd.R_reads' HO_5.out).2.2; have hcut31 := cut_to (P := Try.prog) 37 47 .i64 Try.underlying37 hi031 Ao28 x5_1.length co28 1 (by omega) q31 hroom31; have hr31 := Kd.C_take (m := 1) hC31 (by omega); have hy31 : y219.length = (1 : Int).toNat := (by rw [Ny219.out, List.length_take]; omega); rw [← Ny219.out] at hr31; rw [← hy31] at hcut31; have HR222 := Aside0.mk hr31; have HC222 := Aside0.mk (show y219.length ≤ co28 from by omega); clear hr31 hC31 hroom31 hi031 hsz31; have KY31 := Aside0.mk hy31; clear hy31; have KL31 := Aside0.mk (show 1 ≤ x5_1.length from by omega); replace q31 := eq_true q31) | (go_at_call 17; (with_reducible refine (balance_Alarm.calls k1 _ _ y219 _ _ y215 999 t223 _ ?side1 ?side2 ?side3 ?side4 A20.out).mono ?_); (case side1 => repeat (first | exact (by repeat (first | (with_reducible exact HR222.out) | (with_reducible refine Kd.C_alloc ?_ _) | (with_reducible refine Kd.C_drewN ?_ _) | (with_reducible refine Kd.C_drew ?_) | exact HR222.out)) | (with_reducible refine Kd.C_alloc ?_ _) | (with_reducible refine Kd.C_drewN ?_ _) | (with_reducible refine Kd.C_drew ?_))); (case side2 => exact HC222.out); (case side3 => repeat (first | exact (Kd.R_reads' HO217.out).2.2 | (with_reducible refine Kd.C_alloc ?_ _) | (with_reducible refine Kd.C_drewN ?_ _) | (with_reducible refine Kd.C_drew ?_))); (case side4 => exact (Kd.R_reads' HO217.out).2.1); rintro e w32 ⟨rfl, hb⟩; have n0_ := Aside0.mk (Kd.R_below (by (with_reducible repeat (first | apply Kd.R_alloc | apply Kd.R_drewN | apply Kd.R_drew)); exact HO_5.out) hb); have n1_ := Aside0.mk (Kd.R_below (by (with_reducible repeat (first | apply Kd.R_alloc | apply Kd.R_drewN | apply Kd.R_drew)); exact HO217.out) hb); have n2_ := Aside0.mk (Kd.C_below (by repeat (first | (with_reducible exact HR222.out) | (with_reducible refine Kd.C_alloc ?_ _) | (with_reducible refine Kd.C_drewN ?_ _) | (with_reducible refine Kd.C_drew ?_) | exact HR222.out)) hb); have n3_ := Aside0.mk (below_step (by repeat (first | (with_reducible first | exact HB.out | apply below_alloc | apply pw_below_drewN | apply below_drew1) | exact HB.out)) hb); clear HO_5; clear HO217; clear HR222; clear HB; have HO_5 := n0_; have HO217 := n1_; have HR222 := n2_; have HB := n3_; clear n0_ n1_ n2_ n3_; (try clear hb); (try clear hb2); (try clear hk); (try clear hi); have q33 : ((ji22) : Int) ≤ ((x5_1.length : Int) : Int) := of_decide_eq_true (by first | (with_reducible assumption) | assumption); obtain ⟨i033, hi033, _, hsz33, _⟩ := info_parts info47; have hroom33 : x5_1.length ≤ co28 := (Kd.R_reads' HO_5.out).2.1; have hC33 : Kd.C k47 _ Ao28 x5_1.length x5_1 := (Kd.R_reads' HO_5.out).2.2; have hcut33 := cut_to (P := Try.prog) 37 47 .i64 Try.underlying37 hi033 Ao28 x5_1.length co28 (ji22) (of_decide_eq_true (by first | (with_reducible assumption) | assumption)) q33 hroom33; have hr33 := Kd.C_take (m := ((ji22) : Int).toNat) hC33 (by omega); have hy33 : y224.length = ((ji22) : Int).toNat := (by rw [Ny224.out, List.length_take]; omega); rw [← Ny224.out] at hr33; rw [← hy33] at hcut33; have HR227 := Aside0.mk hr33; have HC227 := Aside0.mk (show y224.length ≤ co28 from by omega); clear hr33 hC33 hroom33 hi033 hsz33; have KY33 := Aside0.mk hy33; clear hy33; have KL33 := Aside0.mk (show ((ji22) : Int).toNat ≤ x5_1.length from by omega); replace q33 := eq_true q33) | (go_at_call 17; (with_reducible refine (balance_Alarm.calls k1 _ _ y224 _ _ y215 50 t228 _ ?side1 ?side2 ?side3 ?side4 A25.out).mono ?_); (case side1 => repeat (first | exact (by repeat (first | (with_reducible exact HR227.out) | (with_reducible refine Kd.C_alloc ?_ _) | (with_reducible refine Kd.C_drewN ?_ _) | (with_reducible refine Kd.C_drew ?_) | exact HR227.out)) | (with_reducible refine Kd.C_alloc ?_ _) | (with_reducible refine Kd.C_drewN ?_ _) | (with_reducible refine Kd.C_drew ?_))); (case side2 => exact HC227.out); (case side3 => repeat (first | exact (Kd.R_reads' HO217.out).2.2 | (with_reducible refine Kd.C_alloc ?_ _) | (with_reducible refine Kd.C_drewN ?_ _) | (with_reducible refine Kd.C_drew ?_))); (case side4 => exact (Kd.R_reads' HO217.out).2.1); rintro e w34 ⟨rfl, hb⟩; have n0_ := Aside0.mk (Kd.R_below (by (with_reducible repeat (first | apply Kd.R_alloc | apply Kd.R_drewN | apply Kd.R_drew)); exact HO_5.out) hb); have n1_ := Aside0.mk (Kd.R_below (by (with_reducible repeat (first | apply Kd.R_alloc | apply Kd.R_drewN | apply Kd.R_drew)); exact HO217.out) hb); have n2_ := Aside0.mk (Kd.C_below (by repeat (first | (with_reducible exact HR222.out) | (with_reducible refine Kd.C_alloc ?_ _) | (with_reducible refine Kd.C_drewN ?_ _) | (with_reducible refine Kd.C_drew ?_) | exact HR222.out)) hb); have n3_ := Aside0.mk (Kd.C_below (by repeat (first | (with_reducible exact HR227.out) | (with_reducible refine Kd.C_alloc ?_ _) | (with_reducible refine Kd.C_drewN ?_ _) | (with_reducible refine Kd.C_drew ?_) | exact HR227.out)) hb); have n4_ := Aside0.mk (below_step (by repeat (first | (with_reducible first | exact HB.out | apply below_alloc | apply pw_below_drewN | apply below_drew1) | exact HB.out)) hb); clear HO_5; clear HO217; clear HR222; clear HR227; clear HB; have HO_5 := n0_; have HO217 := n1_; have HR222 := n2_; have HR227 := n3_; have HB := n4_; clear n0_ n1_ n2_ n3_ n4_; (try clear hb); (try clear hb2); (try clear hk); (try clear hi)))
                      go_ret
                      exact ⟨by first | rfl | (simp [errW_none, errW_some] <;> rfl) | (simp only [← hji22]; first | rfl | (simp [errW_none, errW_some] <;> rfl)) | (simp [*, errW_none, errW_some] <;> rfl), by repeat (first | (with_reducible first | exact HB.out | apply below_alloc | apply pw_below_drewN | apply below_drew1) | exact HB.out)⟩
                    · rw [if_neg c24] at H
                      exact absurd H (by simp)
                  · rw [if_neg c23] at H
                    exact absurd H (by simp)
                · rw [if_neg c21] at H
                  have c21b0 : (t223 == 0) = false := beq_eq_false_iff_ne.mpr c21
                  have c21b1 : (t223 != 0) = true := bne_iff_ne.mpr c21
                  obtain rfl := Option.some.inj H
                  go_wp2_with (first | ((with_reducible refine gate_dst (N := 28) rfl ?_); refine Kd.R_lit k41 _ 41 ?hg (N := 28) ?hd (xs := ([(⟨1, 5000, 5000⟩ : S41)] : List (S41))) (inner := [.int .i64 1, .int .i64 5000, .int .i64 5000]) (ok := fun _ => True) (okp := fun _ => True) ?hr ?hp (fun _ hk => hk) trivial (Below.refl _ _) (Nat.le_refl _) (by simp) ?_; (case hd => rfl); (case hg => rfl); (case hr => first | (go_simp; done) | (go_simp; rfl)); (case hp => exact (Reps.c3 (show Kd.M k41 _ _ _ (⟨1, 5000, 5000⟩ : S41) [.int .i64 1, .int .i64 5000, .int .i64 5000] from (k41_mkM _ _ _ (⟨1, 5000, 5000⟩ : S41) )) (Reps.none _ _))); intro v216 w35 ho36 hb hg_ hnew_; clear hg_ hnew_; (first | rw [← Ny215.out] at ho36 | (simp only [Int.reduceToNat] at ho36; rw [← Ny215.out] at ho36)); have n0_ := Aside0.mk (Kd.R_below (by (with_reducible repeat (first | apply Kd.R_alloc | apply Kd.R_drewN | apply Kd.R_drew)); exact HO_5.out) hb); have n1_ := Aside0.mk (Kd.R_lower ho36 (below_size (by repeat (first | (with_reducible first | exact HB.out | apply below_alloc | apply pw_below_drewN | apply below_drew1) | exact HB.out)))); have n2_ := Aside0.mk (below_step (by repeat (first | (with_reducible first | exact HB.out | apply below_alloc | apply pw_below_drewN | apply below_drew1) | exact HB.out)) hb); clear HO_5; clear HB; have HO_5 := n0_; have HO217 := n1_; have HB := n2_; clear n0_ n1_ n2_; clear hb ho36; obtain ⟨Ao37, co37, eo37⟩ := Kd.R_slice HO_5.out; subst eo37; obtain ⟨Ao38, co38, eo38⟩ := Kd.R_slice HO217.out; subst eo38) | ((with_reducible refine gate_callee (f := 17) rfl ?_); refine goesL_ (some 31) rfl rfl Try.func17 (by kernel_rfl) rfl #[.slice Ao37 x5_1.length co37, .slice Ao38 y215.length co38, .int .i64 50] rfl (by (try simp only [List.map_toArray, List.map_cons, List.map_nil]); first | done | rfl | (simp only [List.length_drop, List.length_take]; rfl) | (simp only [KY31.out, KY33.out]; rfl) | (simp only [KY31.out, KY40.out]; rfl) | (simp only [KY33.out, KY40.out]; rfl)) ?_; (with_reducible refine (balance_Alarm.calls k1 _ _ x5_1 _ _ y215 50 t218 _ ?side1 ?side2 ?side3 ?side4 A16.out).mono ?_); (case side1 => repeat (first | exact (Kd.R_reads' HO_5.out).2.2 | (with_reducible refine Kd.C_alloc ?_ _) | (with_reducible refine Kd.C_drewN ?_ _) | (with_reducible refine Kd.C_drew ?_))); (case side2 => exact (Kd.R_reads' HO_5.out).2.1); (case side3 => repeat (first | exact (Kd.R_reads' HO217.out).2.2 | (with_reducible refine Kd.C_alloc ?_ _) | (with_reducible refine Kd.C_drewN ?_ _) | (with_reducible refine Kd.C_drew ?_))); (case side4 => exact (Kd.R_reads' HO217.out).2.1); rintro e w39 ⟨rfl, hb⟩; refine ⟨_, rfl, ?_⟩; have n0_ := Aside0.mk (Kd.R_below (by (with_reducible repeat (first | apply Kd.R_alloc | apply Kd.R_drewN | apply Kd.R_drew)); exact HO_5.out) hb); have n1_ := Aside0.mk (Kd.R_below (by (with_reducible repeat (first | apply Kd.R_alloc | apply Kd.R_drewN | apply Kd.R_drew)); exact HO217.out) hb); have n2_ := Aside0.mk (below_step (by repeat (first | (with_reducible first | exact HB.out | apply below_alloc | apply pw_below_drewN | apply below_drew1) | exact HB.out)) hb); clear HO_5; clear HO217; clear HB; have HO_5 := n0_; have HO217 := n1_; have HB := n2_; clear n0_ n1_ n2_; (try clear hb); (try clear hb2); (try clear hk); (try clear hi); have q40 : (1 : Int) ≤ ((x5_1.length : Int) : Int) := of_decide_eq_true (by first | (with_reducible assumption) | assumption); obtain ⟨i040, hi040, _, hsz40, _⟩ := info_parts info47; have hroom40 : x5_1.length ≤ co37 := (Kd.R_reads' HO_5.out).2.1; have hC40 : Kd.C k47 _ Ao37 x5_1.length x5_1 := (Kd.R_reads' HO_5.out).2.2; have hcut40 := cut_to (P := Try.prog) 37 47 .i64 Try.underlying37 hi040 Ao37 x5_1.length co37 1 (by omega) q40 hroom40; have hr40 := Kd.C_take (m := 1) hC40 (by omega); have hy40 : y219.length = (1 : Int).toNat := (by rw [Ny219.out, List.length_take]; omega); rw [← Ny219.out] at hr40; rw [← hy40] at hcut40; have HR222 := Aside0.mk hr40; have HC222 := Aside0.mk (show y219.length ≤ co37 from by omega); clear hr40 hC40 hroom40 hi040 hsz40; have KY40 := Aside0.mk hy40; clear hy40; have KL40 := Aside0.mk (show 1 ≤ x5_1.length from by omega); replace q40 := eq_true q40) | (go_at_call 17; (with_reducible refine (balance_Alarm.calls k1 _ _ y219 _ _ y215 999 t223 _ ?side1 ?side2 ?side3 ?side4 A20.out).mono ?_); (case side1 => repeat (first | exact (by repeat (first | (with_reducible exact HR222.out) | (with_reducible refine Kd.C_alloc ?_ _) | (with_reducible refine Kd.C_drewN ?_ _) | (with_reducible refine Kd.C_drew ?_) | exact HR222.out)) | (with_reducible refine Kd.C_alloc ?_ _) | (with_reducible refine Kd.C_drewN ?_ _) | (with_reducible refine Kd.C_drew ?_))); (case side2 => exact HC222.out); (case side3 => repeat (first | exact (Kd.R_reads' HO217.out).2.2 | (with_reducible refine Kd.C_alloc ?_ _) | (with_reducible refine Kd.C_drewN ?_ _) | (with_reducible refine Kd.C_drew ?_))); (case side4 => exact (Kd.R_reads' HO217.out).2.1); rintro e w41 ⟨rfl, hb⟩; have n0_ := Aside0.mk (Kd.R_below (by (with_reducible repeat (first | apply Kd.R_alloc | apply Kd.R_drewN | apply Kd.R_drew)); exact HO_5.out) hb); have n1_ := Aside0.mk (Kd.R_below (by (with_reducible repeat (first | apply Kd.R_alloc | apply Kd.R_drewN | apply Kd.R_drew)); exact HO217.out) hb); have n2_ := Aside0.mk (Kd.C_below (by repeat (first | (with_reducible exact HR222.out) | (with_reducible refine Kd.C_alloc ?_ _) | (with_reducible refine Kd.C_drewN ?_ _) | (with_reducible refine Kd.C_drew ?_) | exact HR222.out)) hb); have n3_ := Aside0.mk (below_step (by repeat (first | (with_reducible first | exact HB.out | apply below_alloc | apply pw_below_drewN | apply below_drew1) | exact HB.out)) hb); clear HO_5; clear HO217; clear HR222; clear HB; have HO_5 := n0_; have HO217 := n1_; have HR222 := n2_; have HB := n3_; clear n0_ n1_ n2_ n3_; (try clear hb); (try clear hb2); (try clear hk); (try clear hi)))
                  go_ret
                  exact ⟨by first | rfl | (simp [errW_none, errW_some] <;> rfl) | (simp [*, errW_none, errW_some] <;> rfl), by repeat (first | (with_reducible first | exact HB.out | apply below_alloc | apply pw_below_drewN | apply below_drew1) | exact HB.out)⟩
              · rw [if_neg c19] at H
                exact absurd H (by simp)
            · rw [if_neg c18] at H
              have c18b0 : decide (t218 ≤ 12) = false := decide_eq_false c18
              clear c18
              obtain rfl := Option.some.inj H
              go_wp2_with (first | ((with_reducible refine gate_dst (N := 28) rfl ?_); refine Kd.R_lit k41 _ 41 ?hg (N := 28) ?hd (xs := ([(⟨1, 5000, 5000⟩ : S41)] : List (S41))) (inner := [.int .i64 1, .int .i64 5000, .int .i64 5000]) (ok := fun _ => True) (okp := fun _ => True) ?hr ?hp (fun _ hk => hk) trivial (Below.refl _ _) (Nat.le_refl _) (by simp) ?_; (case hd => rfl); (case hg => rfl); (case hr => first | (go_simp; done) | (go_simp; rfl)); (case hp => exact (Reps.c3 (show Kd.M k41 _ _ _ (⟨1, 5000, 5000⟩ : S41) [.int .i64 1, .int .i64 5000, .int .i64 5000] from (k41_mkM _ _ _ (⟨1, 5000, 5000⟩ : S41) )) (Reps.none _ _))); intro v216 w42 ho43 hb hg_ hnew_; clear hg_ hnew_; (first | rw [← Ny215.out] at ho43 | (simp only [Int.reduceToNat] at ho43; rw [← Ny215.out] at ho43)); have n0_ := Aside0.mk (Kd.R_below (by (with_reducible repeat (first | apply Kd.R_alloc | apply Kd.R_drewN | apply Kd.R_drew)); exact HO_5.out) hb); have n1_ := Aside0.mk (Kd.R_lower ho43 (below_size (by repeat (first | (with_reducible first | exact HB.out | apply below_alloc | apply pw_below_drewN | apply below_drew1) | exact HB.out)))); have n2_ := Aside0.mk (below_step (by repeat (first | (with_reducible first | exact HB.out | apply below_alloc | apply pw_below_drewN | apply below_drew1) | exact HB.out)) hb); clear HO_5; clear HB; have HO_5 := n0_; have HO217 := n1_; have HB := n2_; clear n0_ n1_ n2_; clear hb ho43; obtain ⟨Ao44, co44, eo44⟩ := Kd.R_slice HO_5.out; subst eo44; obtain ⟨Ao45, co45, eo45⟩ := Kd.R_slice HO217.out; subst eo45) | ((with_reducible refine gate_callee (f := 17) rfl ?_); refine goesL_ (some 31) rfl rfl Try.func17 (by kernel_rfl) rfl #[.slice Ao44 x5_1.length co44, .slice Ao45 y215.length co45, .int .i64 50] rfl (by (try simp only [List.map_toArray, List.map_cons, List.map_nil]); first | done | rfl | (simp only [List.length_drop, List.length_take]; rfl) | (simp only [KY31.out, KY33.out]; rfl) | (simp only [KY31.out, KY40.out]; rfl) | (simp only [KY33.out, KY40.out]; rfl)) ?_; (with_reducible refine (balance_Alarm.calls k1 _ _ x5_1 _ _ y215 50 t218 _ ?side1 ?side2 ?side3 ?side4 A16.out).mono ?_); (case side1 => repeat (first | exact (Kd.R_reads' HO_5.out).2.2 | (with_reducible refine Kd.C_alloc ?_ _) | (with_reducible refine Kd.C_drewN ?_ _) | (with_reducible refine Kd.C_drew ?_))); (case side2 => exact (Kd.R_reads' HO_5.out).2.1); (case side3 => repeat (first | exact (Kd.R_reads' HO217.out).2.2 | (with_reducible refine Kd.C_alloc ?_ _) | (with_reducible refine Kd.C_drewN ?_ _) | (with_reducible refine Kd.C_drew ?_))); (case side4 => exact (Kd.R_reads' HO217.out).2.1); rintro e w46 ⟨rfl, hb⟩; refine ⟨_, rfl, ?_⟩; have n0_ := Aside0.mk (Kd.R_below (by (with_reducible repeat (first | apply Kd.R_alloc | apply Kd.R_drewN | apply Kd.R_drew)); exact HO_5.out) hb); have n1_ := Aside0.mk (Kd.R_below (by (with_reducible repeat (first | apply Kd.R_alloc | apply Kd.R_drewN | apply Kd.R_drew)); exact HO217.out) hb); have n2_ := Aside0.mk (below_step (by repeat (first | (with_reducible first | exact HB.out | apply below_alloc | apply pw_below_drewN | apply below_drew1) | exact HB.out)) hb); clear HO_5; clear HO217; clear HB; have HO_5 := n0_; have HO217 := n1_; have HB := n2_; clear n0_ n1_ n2_; (try clear hb); (try clear hb2); (try clear hk); (try clear hi)))
              go_ret
              exact ⟨by first | rfl | (simp [errW_none, errW_some] <;> rfl) | (simp [*, errW_none, errW_some] <;> rfl), by repeat (first | (with_reducible first | exact HB.out | apply below_alloc | apply pw_below_drewN | apply below_drew1) | exact HB.out)⟩
          · rw [if_neg c17] at H
            have c17b0 : decide (1 < t218) = false := decide_eq_false c17
            clear c17
            obtain rfl := Option.some.inj H
            go_wp2_with (first | ((with_reducible refine gate_dst (N := 28) rfl ?_); refine Kd.R_lit k41 _ 41 ?hg (N := 28) ?hd (xs := ([(⟨1, 5000, 5000⟩ : S41)] : List (S41))) (inner := [.int .i64 1, .int .i64 5000, .int .i64 5000]) (ok := fun _ => True) (okp := fun _ => True) ?hr ?hp (fun _ hk => hk) trivial (Below.refl _ _) (Nat.le_refl _) (by simp) ?_; (case hd => rfl); (case hg => rfl); (case hr => first | (go_simp; done) | (go_simp; rfl)); (case hp => exact (Reps.c3 (show Kd.M k41 _ _ _ (⟨1, 5000, 5000⟩ : S41) [.int .i64 1, .int .i64 5000, .int .i64 5000] from (k41_mkM _ _ _ (⟨1, 5000, 5000⟩ : S41) )) (Reps.none _ _))); intro v216 w47 ho48 hb hg_ hnew_; clear hg_ hnew_; (first | rw [← Ny215.out] at ho48 | (simp only [Int.reduceToNat] at ho48; rw [← Ny215.out] at ho48)); have n0_ := Aside0.mk (Kd.R_below (by (with_reducible repeat (first | apply Kd.R_alloc | apply Kd.R_drewN | apply Kd.R_drew)); exact HO_5.out) hb); have n1_ := Aside0.mk (Kd.R_lower ho48 (below_size (by repeat (first | (with_reducible first | exact HB.out | apply below_alloc | apply pw_below_drewN | apply below_drew1) | exact HB.out)))); have n2_ := Aside0.mk (below_step (by repeat (first | (with_reducible first | exact HB.out | apply below_alloc | apply pw_below_drewN | apply below_drew1) | exact HB.out)) hb); clear HO_5; clear HB; have HO_5 := n0_; have HO217 := n1_; have HB := n2_; clear n0_ n1_ n2_; clear hb ho48; obtain ⟨Ao49, co49, eo49⟩ := Kd.R_slice HO_5.out; subst eo49; obtain ⟨Ao50, co50, eo50⟩ := Kd.R_slice HO217.out; subst eo50) | ((with_reducible refine gate_callee (f := 17) rfl ?_); refine goesL_ (some 31) rfl rfl Try.func17 (by kernel_rfl) rfl #[.slice Ao49 x5_1.length co49, .slice Ao50 y215.length co50, .int .i64 50] rfl (by (try simp only [List.map_toArray, List.map_cons, List.map_nil]); first | done | rfl | (simp only [List.length_drop, List.length_take]; rfl) | (simp only [KY31.out, KY33.out]; rfl) | (simp only [KY31.out, KY40.out]; rfl) | (simp only [KY33.out, KY40.out]; rfl)) ?_; (with_reducible refine (balance_Alarm.calls k1 _ _ x5_1 _ _ y215 50 t218 _ ?side1 ?side2 ?side3 ?side4 A16.out).mono ?_); (case side1 => repeat (first | exact (Kd.R_reads' HO_5.out).2.2 | (with_reducible refine Kd.C_alloc ?_ _) | (with_reducible refine Kd.C_drewN ?_ _) | (with_reducible refine Kd.C_drew ?_))); (case side2 => exact (Kd.R_reads' HO_5.out).2.1); (case side3 => repeat (first | exact (Kd.R_reads' HO217.out).2.2 | (with_reducible refine Kd.C_alloc ?_ _) | (with_reducible refine Kd.C_drewN ?_ _) | (with_reducible refine Kd.C_drew ?_))); (case side4 => exact (Kd.R_reads' HO217.out).2.1); rintro e w51 ⟨rfl, hb⟩; refine ⟨_, rfl, ?_⟩; have n0_ := Aside0.mk (Kd.R_below (by (with_reducible repeat (first | apply Kd.R_alloc | apply Kd.R_drewN | apply Kd.R_drew)); exact HO_5.out) hb); have n1_ := Aside0.mk (Kd.R_below (by (with_reducible repeat (first | apply Kd.R_alloc | apply Kd.R_drewN | apply Kd.R_drew)); exact HO217.out) hb); have n2_ := Aside0.mk (below_step (by repeat (first | (with_reducible first | exact HB.out | apply below_alloc | apply pw_below_drewN | apply below_drew1) | exact HB.out)) hb); clear HO_5; clear HO217; clear HB; have HO_5 := n0_; have HO217 := n1_; have HB := n2_; clear n0_ n1_ n2_; (try clear hb); (try clear hb2); (try clear hk); (try clear hi)))
            go_ret
            exact ⟨by first | rfl | (simp [errW_none, errW_some] <;> rfl) | (simp [*, errW_none, errW_some] <;> rfl), by repeat (first | (with_reducible first | exact HB.out | apply below_alloc | apply pw_below_drewN | apply below_drew1) | exact HB.out)⟩
  · replace c4 := Bool.eq_false_iff.mpr c4
    subst c4
    have H1 : (some false) = some r := by rw [if_neg (show ¬ (false = true) by decide)] at H; exact H
    clear H
    have H := H1
    clear H1
    obtain rfl := Option.some.inj H
    go_enter Try.func7, Try.ntmps7
    go_wp2_with (first | ((with_reducible refine gate_callee (f := 8) rfl ?_); refine goesL_ (some 10) rfl rfl Try.func8 (by kernel_rfl) rfl #[] rfl (by (try simp only [List.map_toArray, List.map_cons, List.map_nil]); first | done | rfl | (simp only [List.length_drop, List.length_take]; rfl) | (simp only [KY31.out, KY33.out]; rfl) | (simp only [KY31.out, KY40.out]; rfl) | (simp only [KY33.out, KY40.out]; rfl)) ?_; (with_reducible refine (flagstonelaw42_awake.calls k  false _ A3.out).mono ?_); rintro e w52 ⟨rfl, hb⟩; refine ⟨_, rfl, ?_⟩; have n0_ := Aside0.mk (below_step (by repeat (first | (with_reducible first | exact HB.out | apply below_alloc | apply pw_below_drewN | apply below_drew1) | exact HB.out)) hb); clear HB; have HB := n0_; clear n0_; (try clear hb); (try clear hb2); (try clear hk); (try clear hi)))
    go_ret
    exact ⟨by first | rfl | (simp [errW_none, errW_some] <;> rfl) | (simp [*, errW_none, errW_some] <;> rfl), by repeat (first | (with_reducible first | exact HB.out | apply below_alloc | apply pw_below_drewN | apply below_drew1) | exact HB.out)⟩

/-- THE ONE PURE STATEMENT of flagstonelaw42_BalanceFinds: yours. -/
def flagstonelaw42_BalanceFinds.Pure : Prop := ∀ (a0 : Bool) (a1 : Int), (Lit.int .u8 a1).wf = true → ∃ k, flagstonelaw42_BalanceFinds.f k a0 a1 = some true
theorem flagstonelaw42_BalanceFinds.walk (P : flagstonelaw42_BalanceFinds.Pure) (a0 : Bool) (a1 : Int) (w : World) (w1 : (Lit.int .u8 a1).wf = true) :
    Calls Try.prog 7 #[.bool a0, .int .u8 a1] w fun e w' => e = .returned (.bool true) ∧ Below w.heap.size w w' := by
  obtain ⟨k, h⟩ := P a0 a1 w1
  refine (flagstonelaw42_BalanceFinds.calls k a0 a1 true w h).mono ?_
  rintro e w' ⟨rfl, hd⟩
  exact ⟨rfl, hd⟩

end Go.Proofs.Ythkgjkmcmkpkcaa.PA
