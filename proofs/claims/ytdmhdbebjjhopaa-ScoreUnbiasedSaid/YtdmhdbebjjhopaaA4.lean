/- What Of of the program answers. -/
import Derived.Test.YtdmhdbebjjhopaaPA5
import Derived.Test.YtdmhdbebjjhopaaA1
namespace Go.Proofs.Ytdmhdbebjjhopaa.PA
open Go Go.RowKit Go.Proofs.YtdmhdbebjjhopaaW.PrintWords Go.Proofs.YtdmhdbebjjhopaaW.PrintLast Go.Proofs.YtdmhdbebjjhopaaW.PrintMore Go.Proofs.Ytdmhdbebjjhopaa.M
set_option linter.unusedVariables false
set_option linter.unusedSimpArgs false

/-! The score of a sample. -/
/-- Num, Unit, Range; whether there is a score. -/
def numS (arm y p1 p2 c t : Int) : Int := if arm = 1 then wrap64 (wrap64 (wrap64 (c * t) * wrap64 (p2 - p1)) - wrap64 (wrap64 (wrap64 (c + t) * t) * wrap64 (y - p1))) else wrap64 (wrap64 (wrap64 (c * t) * wrap64 (p2 - p1)) + wrap64 (wrap64 (wrap64 (c + t) * c) * wrap64 (y - p2)))
def okS (s : List S34) (i c t cap : Int) : Bool :=
  decide (0 ≤ i ∧ i < s.length ∧ 1 ≤ c ∧ c ≤ 10000 ∧ 1 ≤ t ∧ t ≤ 10000 ∧ 1 ≤ cap ∧ cap ≤ 1048576) && ((s.take (i.toNat + 1)).all fun x => decide (0 ≤ x.f1 ∧ x.f1 ≤ cap)) && decide ((rd_T34 s i).f0.f4 = 1 ∨ (rd_T34 s i).f0.f4 = 2)
def ofS (s : List S34) (i c t cap : Int) (adj : Bool) : Int × Int × Int × Bool :=
  if okS s i c t cap = true then
    (numS (rd_T34 s i).f0.f4 (rd_T34 s i).f1 (if adj = true then predictS s i 1 cap else 0) (if adj = true then predictS s i 2 cap else 0) c t, c * t * cap, cap * (2 * (c * t) + (c + t) * (mx c t)), true)
  else (0, 0, 0, false)
theorem mx_in {c t : Int} (h0 : 1 ≤ c) (h1 : c ≤ 10000) (h2 : 1 ≤ t) (h3 : t ≤ 10000) : 1 ≤ mx c t ∧ mx c t ≤ 10000 := by unfold mx; split <;> omega
/-- How great the parts are. -/
theorem parts_in {c t cap : Int} (h0 : 1 ≤ c) (h1 : c ≤ 10000) (h2 : 1 ≤ t) (h3 : t ≤ 10000) (h4 : 1 ≤ cap) (h5 : cap ≤ 1048576) :
    1 ≤ c * t ∧ c * t ≤ 100000000 ∧ 2 ≤ (c + t) * mx c t ∧ (c + t) * mx c t ≤ 200000000 ∧ 1 ≤ c * t * cap ∧ c * t * cap ≤ 104857600000000 ∧ 4 ≤ cap * (2 * (c * t) + (c + t) * mx c t) ∧ cap * (2 * (c * t) + (c + t) * mx c t) ≤ 419430400000000 := by
  have m := mx_in h0 h1 h2 h3
  have p := mul_le (x := c) (y := t) (a := 10000) (b := 10000) (by omega) (by omega) h1 h3
  have p1 : 1 * 1 ≤ c * t := Int.mul_le_mul h0 h2 (by omega) (by omega)
  have q := mul_le (x := c + t) (y := mx c t) (a := 20000) (b := 10000) (by omega) (by omega) (by omega) m.2
  have q1 : 2 * 1 ≤ (c + t) * mx c t := Int.mul_le_mul (by omega) m.1 (by omega) (by omega)
  generalize (c + t) * mx c t = z at *
  generalize c * t = w at *
  have r := mul_le (x := w) (y := cap) (a := 100000000) (b := 1048576) (by omega) (by omega) (by omega) h5
  have r1 : 1 * 1 ≤ w * cap := Int.mul_le_mul p1 h4 (by omega) (by omega)
  have u := mul_le (x := cap) (y := 2 * w + z) (a := 1048576) (b := 400000000) (by omega) (by omega) h5 (by omega)
  have u1 : 1 * 4 ≤ cap * (2 * w + z) := Int.mul_le_mul h4 (by omega) (by omega) (by omega)
  refine ⟨by omega, by omega, by omega, by omega, by omega, by omega, by omega, by omega⟩
theorem all_from {s : List S34} {cap : Int} {t : Nat} (h : t < s.length) : ((s.drop t).all fun x => decide (0 ≤ x.f1 ∧ x.f1 ≤ cap)) = (decide (0 ≤ s[t].f1 ∧ s[t].f1 ≤ cap) && ((s.drop (t + 1)).all fun x => decide (0 ≤ x.f1 ∧ x.f1 ≤ cap))) := by
  rw [List.drop_eq_getElem_cons h]; rfl
theorem of_j2 {s : List S34} {i : Nat} {c t cap p1 p2 : Int} (hi : i < s.length) (h0 : 1 ≤ c) (h1 : c ≤ 10000) (h2 : 1 ≤ t) (h3 : t ≤ 10000) (h4 : 1 ≤ cap) (h5 : cap ≤ 1048576) :
    Ev (fun k => score_Of.j2 k s (i : Int) cap p1 p2 c t) (if (rd_T34 s i).f0.f4 = 1 ∨ (rd_T34 s i).f0.f4 = 2 then (numS (rd_T34 s i).f0.f4 (rd_T34 s i).f1 p1 p2 c t, c * t * cap, cap * (2 * (c * t) + (c + t) * (mx c t)), true) else (0, 0, 0, false)) := by
  obtain ⟨b1, b2, b3, b4, b5, b6, b7, b8⟩ := parts_in h0 h1 h2 h3 h4 h5
  have m := mx_in h0 h1 h2 h3
  have e1 : wrap64 (c * t) = c * t := w64_id (by omega) (by omega)
  have e2 : wrap64 (c + t) = c + t := w64_id (by omega) (by omega)
  have e3 : wrap64 (c * t * cap) = c * t * cap := w64_id (by omega) (by omega)
  have e4 : wrap64 (2 * (c * t)) = 2 * (c * t) := w64_id (by omega) (by omega)
  have e5 : wrap64 ((c + t) * mx c t) = (c + t) * mx c t := w64_id (by omega) (by omega)
  have e6 : wrap64 (2 * (c * t) + (c + t) * mx c t) = 2 * (c * t) + (c + t) * mx c t := w64_id (by omega) (by omega)
  have e7 : wrap64 (cap * (2 * (c * t) + (c + t) * mx c t)) = cap * (2 * (c * t) + (c + t) * mx c t) := w64_id (by omega) (by omega)
  refine Ev.step (fun k => by simp only [score_Of.j2, score_weights_product.f, score_weights_sum.f, Option.bind_some]; rfl) ?_
  rw [e1, e2, e3, e4, e5, e6, e7]
  refine Ev.pos (by omega) (Ev.pos (by omega) ?_)
  refine Ev.step (fun k => by simp only [score_Of.j3, score_weights_sum.f, Option.bind_some]; rfl) ?_
  refine Ev.pos (by omega) (Ev.pos (by omega) (Ev.both (fun ha => ?_) (fun ha => Ev.both (fun hb => ?_) (fun hb => ?_))))
  · rw [if_pos (.inl ha)]; unfold numS; rw [if_pos ha, e1, e2]; exact Ev.now _
  · rw [if_pos (.inr hb)]; unfold numS; rw [if_neg ha, e1, e2]; exact Ev.now _
  · rw [if_neg (by omega)]; exact Ev.now _
theorem of_l0 {s : List S34} {i : Nat} {c t cap : Int} {adj : Bool} (hm : s.length ≤ 4611686018427387904) (hi : i < s.length) (h0 : 1 ≤ c) (h1 : c ≤ 10000) (h2 : 1 ≤ t) (h3 : t ≤ 10000) (h4 : 1 ≤ cap) (h5 : cap ≤ 1048576) :
    ∀ m j : Nat, i + 1 - j = m → j ≤ i + 1 → Ev (fun k => score_Of.l0 k s (i : Int) cap adj (s.take (i + 1)) ((s.take (i + 1)).length : Int) (j : Int) c t)
      (if ((s.take (i + 1)).drop j).all (fun x => decide (0 ≤ x.f1 ∧ x.f1 ≤ cap)) = true ∧ ((rd_T34 s i).f0.f4 = 1 ∨ (rd_T34 s i).f0.f4 = 2) then
        (numS (rd_T34 s i).f0.f4 (rd_T34 s i).f1 (if adj = true then predictS s i 1 cap else 0) (if adj = true then predictS s i 2 cap else 0) c t, c * t * cap, cap * (2 * (c * t) + (c + t) * (mx c t)), true) else (0, 0, 0, false)) := by
  intro m
  have hlen : (s.take (i + 1)).length = i + 1 := by rw [List.length_take]; omega
  induction m with
  | zero =>
    intro j hmt hj
    rw [List.drop_of_length_le (by omega)]
    refine Ev.step (fun k => by simp only [score_Of.l0]; rfl) ?_
    refine Ev.neg (by omega) ?_
    have fin : ∀ p1 p2 : Int, Ev (fun k => score_Of.j2 k s (i : Int) cap p1 p2 c t) (if ([] : List S34).all (fun x => decide (0 ≤ x.f1 ∧ x.f1 ≤ cap)) = true ∧ ((rd_T34 s i).f0.f4 = 1 ∨ (rd_T34 s i).f0.f4 = 2) then (numS (rd_T34 s i).f0.f4 (rd_T34 s i).f1 p1 p2 c t, c * t * cap, cap * (2 * (c * t) + (c + t) * (mx c t)), true) else (0, 0, 0, false)) := fun p1 p2 => by
      have := of_j2 (s := s) (i := i) (p1 := p1) (p2 := p2) hi h0 h1 h2 h3 h4 h5
      simpa using this
    by_cases ha : adj = true
    · rw [if_pos ha, if_pos ha]
      exact Ev.pos ha (Ev.bind (Predict_is _ _ _ _ hm) (Ev.bind (Predict_is _ _ _ _ hm) (fin _ _)))
    · rw [if_neg ha, if_neg ha]
      exact Ev.neg ha (fin _ _)
  | succ m ih =>
    intro j hmt hj
    have hlt : j < (s.take (i + 1)).length := by omega
    have hw : wrap64 ((j : Int) + 1) = ((j + 1 : Nat) : Int) := by rw [w64_id (by omega) (by omega)]; omega
    have rt := rd_T hlt
    have next := ih (j + 1) (by omega) (by omega)
    rw [all_from hlt]
    generalize (s.take (i + 1))[j] = x at rt
    refine Ev.step (fun k => by simp only [score_Of.l0]; rfl) ?_
    rw [rt, hw]
    refine Ev.pos (by omega) (Ev.pos (by omega) (Ev.pos (by omega) (Ev.both (fun ha => ?_) (fun ha => Ev.both (fun hb => ?_) (fun hb => ?_)))))
    · rw [decide_eq_false (by omega)]; simp only [Bool.false_and, Bool.false_eq_true, false_and, if_false]; exact Ev.now _
    · rw [decide_eq_false (by omega)]; simp only [Bool.false_and, Bool.false_eq_true, false_and, if_false]; exact Ev.now _
    · rw [decide_eq_true (by omega)]; simp only [Bool.true_and]; exact next
theorem Of_is (s : List S34) (i v c t cap : Int) (adj : Bool) (hm : s.length ≤ 4611686018427387904) : Ev (fun k => score_Of.f k s i v c t cap adj) (ofS s i c t cap adj) := by
  unfold score_Of.f ofS
  have stop : ∀ b, b = true → Ev (fun k => score_Of.j0 k s i cap adj b c t) (0, 0, 0, false) := fun b hb => by
    subst hb
    exact Ev.step (f := fun _ => some (0, 0, 0, false)) (fun k => by simp only [score_Of.j0]; rw [if_pos trivial]) (Ev.now _)
  by_cases h : 0 ≤ i ∧ i < s.length ∧ 1 ≤ c ∧ c ≤ 10000 ∧ 1 ≤ t ∧ t ≤ 10000 ∧ 1 ≤ cap ∧ cap ≤ 1048576
  · have hv : score_weights_valid.f c t = some true := by
      unfold score_weights_valid.f
      rw [if_pos (by omega), if_pos (by omega), if_pos (by omega), decide_eq_true (by omega)]
    refine Ev.neg (by omega) (Ev.neg (by omega) ?_)
    rw [hv]
    refine Ev.bind (Ev.now _) (Ev.pos rfl (Ev.neg (by omega) ?_))
    rw [decide_eq_false (by omega)]
    obtain ⟨i0, i1, h0, h1, h2, h3, h4, h5⟩ := h
    obtain ⟨i, rfl⟩ := Int.eq_ofNat_of_zero_le i0
    have hw : wrap64 ((i : Int) + 1) = ((i + 1 : Nat) : Int) := by rw [w64_id (by omega) (by omega)]; omega
    refine Ev.step (fun k => by simp only [score_Of.j0]; rfl) ?_
    rw [hw, Int.toNat_natCast]
    refine Ev.neg (by decide) (Ev.pos (by omega) (Ev.pos (by omega) (Ev.bind (Ev.now _) ?_)))
    have := of_l0 (s := s) (i := i) (adj := adj) hm (by omega) h0 h1 h2 h3 h4 h5 (i + 1) 0 rfl (by omega)
    rw [List.drop_zero] at this
    unfold okS
    rw [decide_eq_true (by omega : 0 ≤ (i : Int) ∧ (i : Int) < s.length ∧ 1 ≤ c ∧ c ≤ 10000 ∧ 1 ≤ t ∧ t ≤ 10000 ∧ 1 ≤ cap ∧ cap ≤ 1048576), Int.toNat_natCast]
    simp only [Bool.true_and, Bool.and_eq_true, decide_eq_true_eq]
    exact this
  · have hk : okS s i c t cap = false := by
      unfold okS
      rw [decide_eq_false h]; rfl
    rw [hk, if_neg (by decide)]
    refine Ev.both (fun _ => stop _ rfl) (fun g1 => Ev.both (fun _ => stop _ rfl) (fun g2 => ?_))
    by_cases g : 1 ≤ c ∧ c ≤ 10000 ∧ 1 ≤ t ∧ t ≤ 10000
    · have hv : score_weights_valid.f c t = some true := by
        unfold score_weights_valid.f
        rw [if_pos (by omega), if_pos (by omega), if_pos (by omega), decide_eq_true (by omega)]
      rw [hv]
      exact Ev.bind (Ev.now _) (Ev.pos rfl (Ev.both (fun _ => stop _ rfl) (fun g3 => stop _ (decide_eq_true (by omega)))))
    · have hv : score_weights_valid.f c t = some false := by
        unfold score_weights_valid.f
        by_cases g3 : c ≥ 1
        · rw [if_pos g3]
          by_cases g4 : c ≤ 10000
          · rw [if_pos g4]
            by_cases g5 : t ≥ 1
            · rw [if_pos g5, decide_eq_false (by omega)]
            · rw [if_neg g5]
          · rw [if_neg g4]
        · rw [if_neg g3]
      rw [hv]
      exact Ev.bind (Ev.now _) (Ev.neg (by decide) (stop _ rfl))
end Go.Proofs.Ytdmhdbebjjhopaa.PA
