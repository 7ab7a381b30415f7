/- What Of of the document's text answers: the same. -/
import Derived.Test.YtdmhdbebjjhopaaPA10
import Derived.Test.YtdmhdbebjjhopaaA2
import Derived.Test.YtdmhdbebjjhopaaA4
namespace Go.Proofs.Ytdmhdbebjjhopaa.PA
open Go Go.RowKit Go.Proofs.YtdmhdbebjjhopaaW.PrintWords Go.Proofs.YtdmhdbebjjhopaaW.PrintLast Go.Proofs.YtdmhdbebjjhopaaW.PrintMore Go.Proofs.Ytdmhdbebjjhopaa.M
set_option linter.unusedVariables false
set_option linter.unusedSimpArgs false

theorem refOf_j2 {s : List S34} {i : Nat} {c t cap p1 p2 : Int} (hi : i < s.length) (h0 : 1 ≤ c) (h1 : c ≤ 10000) (h2 : 1 ≤ t) (h3 : t ≤ 10000) (h4 : 1 ≤ cap) (h5 : cap ≤ 1048576) (harm : (rd_T34 s i).f0.f4 = 1 ∨ (rd_T34 s i).f0.f4 = 2) :
    Ev (fun k => flagstoneref39_Of.j2 k s (i : Int) cap c t p1 p2) (numS (rd_T34 s i).f0.f4 (rd_T34 s i).f1 p1 p2 c t, c * t * cap, cap * (2 * (c * t) + (c + t) * (mx c t)), true) := by
  obtain ⟨b1, b2, b3, b4, b5, b6, b7, b8⟩ := parts_in h0 h1 h2 h3 h4 h5
  have m := mx_in h0 h1 h2 h3
  have e1 : wrap64 (c * t) = c * t := w64_id (by omega) (by omega)
  have e2 : wrap64 (c + t) = c + t := w64_id (by omega) (by omega)
  have e3 : wrap64 (c * t * cap) = c * t * cap := w64_id (by omega) (by omega)
  have e4 : wrap64 (wrap64 (2 * c) * t) = 2 * (c * t) := by rw [w64_id (x := 2 * c) (by omega) (by omega), Int.mul_assoc, w64_id (by omega) (by omega)]
  have e5 : wrap64 ((c + t) * mx c t) = (c + t) * mx c t := w64_id (by omega) (by omega)
  have e6 : wrap64 (2 * (c * t) + (c + t) * mx c t) = 2 * (c * t) + (c + t) * mx c t := w64_id (by omega) (by omega)
  have e7 : wrap64 (cap * (2 * (c * t) + (c + t) * mx c t)) = cap * (2 * (c * t) + (c + t) * mx c t) := w64_id (by omega) (by omega)
  refine Ev.step (fun k => by simp only [flagstoneref39_Of.j2]; rfl) ?_
  rw [e1, e2, e3, e4, e5, e6, e7]
  refine Ev.pos (by omega) (Ev.pos (by omega) (Ev.both (fun ha => ?_) (fun ha => ?_)))
  · unfold numS; rw [if_neg (by omega), e1, e2]; exact Ev.now _
  · unfold numS; rw [if_pos (by omega), e1, e2]; exact Ev.now _
theorem refOf_l0 {s : List S34} {i : Nat} {c t cap : Int} {adj : Bool} (hm : s.length ≤ 4611686018427387904) (hc : ∀ x ∈ s, x.f3 ≤ 9223372036854775807) (hi : i < s.length) (h0 : 1 ≤ c) (h1 : c ≤ 10000) (h2 : 1 ≤ t) (h3 : t ≤ 10000) (h4 : 1 ≤ cap) (h5 : cap ≤ 1048576)
    (harm : (rd_T34 s i).f0.f4 = 1 ∨ (rd_T34 s i).f0.f4 = 2) :
    ∀ m j : Nat, i + 1 - j = m → j ≤ i + 1 → Ev (fun k => flagstoneref39_Of.l0 k s (i : Int) cap adj c t (j : Int))
      (if ((s.take (i + 1)).drop j).all (fun x => decide (0 ≤ x.f1 ∧ x.f1 ≤ cap)) = true then
        (numS (rd_T34 s i).f0.f4 (rd_T34 s i).f1 (if adj = true then predictS s i 1 cap else 0) (if adj = true then predictS s i 2 cap else 0) c t, c * t * cap, cap * (2 * (c * t) + (c + t) * (mx c t)), true) else (0, 0, 0, false)) := by
  intro m
  have hlen : (s.take (i + 1)).length = i + 1 := by rw [List.length_take]; omega
  induction m with
  | zero =>
    intro j hmt hj
    rw [List.drop_of_length_le (by omega), List.all_nil, if_pos rfl]
    refine Ev.step (fun k => by simp only [flagstoneref39_Of.l0]; rfl) ?_
    refine Ev.neg (by omega) ?_
    by_cases ha : adj = true
    · rw [if_pos ha, if_pos ha]
      exact Ev.pos ha (Ev.bind (refPredict_is _ _ _ _ hm hc) (Ev.bind (refPredict_is _ _ _ _ hm hc) (refOf_j2 hi h0 h1 h2 h3 h4 h5 harm)))
    · rw [if_neg ha, if_neg ha]
      exact Ev.neg ha (refOf_j2 hi h0 h1 h2 h3 h4 h5 harm)
  | succ m ih =>
    intro j hmt hj
    have hlt : j < (s.take (i + 1)).length := by omega
    have hls : j < s.length := by omega
    have hw : wrap64 ((j : Int) + 1) = ((j + 1 : Nat) : Int) := by rw [w64_id (by omega) (by omega)]; omega
    have rt := rd_T hls
    have next := ih (j + 1) (by omega) (by omega)
    rw [all_from hlt, List.getElem_take]
    generalize s[j] = x at rt
    refine Ev.step (fun k => by simp only [flagstoneref39_Of.l0]; rfl) ?_
    rw [rt, hw]
    refine Ev.pos (by omega) (Ev.pos (by omega) (Ev.pos (by omega) (Ev.both (fun ha => ?_) (fun ha => Ev.both (fun hb => ?_) (fun hb => ?_)))))
    · rw [decide_eq_false (by omega)]; simp only [Bool.false_and, Bool.false_eq_true, if_false]; exact Ev.now _
    · rw [decide_eq_false (by omega)]; simp only [Bool.false_and, Bool.false_eq_true, if_false]; exact Ev.now _
    · rw [decide_eq_true (by omega)]; simp only [Bool.true_and]; exact next
theorem refOf_is (s : List S34) (i v c t cap : Int) (adj : Bool) (hm : s.length ≤ 4611686018427387904) (hc : ∀ x ∈ s, x.f3 ≤ 9223372036854775807) : Ev (fun k => flagstoneref39_Of.f k s i v c t cap adj) (ofS s i c t cap adj) := by
  unfold flagstoneref39_Of.f ofS
  have stop : ∀ b, b = true → Ev (fun k => flagstoneref39_Of.j0 k s i cap adj c t b) (0, 0, 0, false) := fun b hb => by
    subst hb
    exact Ev.step (f := fun _ => some (0, 0, 0, false)) (fun k => by simp only [flagstoneref39_Of.j0]; rw [if_pos trivial]) (Ev.now _)
  by_cases h : (0 ≤ i ∧ i < s.length ∧ 1 ≤ c ∧ c ≤ 10000 ∧ 1 ≤ t ∧ t ≤ 10000 ∧ 1 ≤ cap ∧ cap ≤ 1048576) ∧ ((rd_T34 s i).f0.f4 = 1 ∨ (rd_T34 s i).f0.f4 = 2)
  · obtain ⟨h, harm⟩ := h
    refine Ev.neg (by omega) (Ev.neg (by omega) (Ev.pos (by omega) (Ev.pos (by omega) (Ev.neg (by omega) (Ev.neg (by omega) (Ev.neg (by omega) (Ev.neg (by omega) (Ev.neg (by omega) (Ev.neg (by omega) (Ev.neg (by omega) ?_))))))))))
    rw [decide_eq_false (by omega)]
    obtain ⟨i0, i1, h0, h1, h2, h3, h4, h5⟩ := h
    obtain ⟨i, rfl⟩ := Int.eq_ofNat_of_zero_le i0
    refine Ev.step (fun k => by simp only [flagstoneref39_Of.j0]; rfl) ?_
    refine Ev.neg (by decide) ?_
    have := refOf_l0 (s := s) (i := i) (adj := adj) hm hc (by omega) h0 h1 h2 h3 h4 h5 harm (i + 1) 0 rfl (by omega)
    rw [List.drop_zero] at this
    unfold okS
    rw [decide_eq_true (by omega : 0 ≤ (i : Int) ∧ (i : Int) < s.length ∧ 1 ≤ c ∧ c ≤ 10000 ∧ 1 ≤ t ∧ t ≤ 10000 ∧ 1 ≤ cap ∧ cap ≤ 1048576), decide_eq_true harm, Int.toNat_natCast]
    simp only [Bool.true_and, Bool.and_true]
    exact this
  · have hk : okS s i c t cap = false := by
      unfold okS
      by_cases g : (0 ≤ i ∧ i < s.length ∧ 1 ≤ c ∧ c ≤ 10000 ∧ 1 ≤ t ∧ t ≤ 10000 ∧ 1 ≤ cap ∧ cap ≤ 1048576)
      · rw [decide_eq_false (fun q => h ⟨g, q⟩), Bool.and_false]
      · rw [decide_eq_false g]; rfl
    rw [hk, if_neg (by decide)]
    refine Ev.both (fun _ => stop _ rfl) (fun g1 => Ev.both (fun _ => stop _ rfl) (fun g2 => Ev.pos (by omega) (Ev.pos (by omega) (Ev.both (fun _ => stop _ rfl) (fun g3 => Ev.both (fun _ => stop _ rfl) (fun g4 => Ev.both (fun _ => stop _ rfl) (fun g5 => Ev.both (fun _ => stop _ rfl) (fun g6 => Ev.both (fun _ => stop _ rfl) (fun g7 => Ev.both (fun _ => stop _ rfl) (fun g8 => Ev.both (fun _ => stop _ rfl) (fun g9 => stop _ (decide_eq_true (by omega)))))))))))))
end Go.Proofs.Ytdmhdbebjjhopaa.PA
