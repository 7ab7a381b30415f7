/- What Class, floor and Predict of the document's text answer: the same. -/
import Derived.Test.YtdmhdbebjjhopaaPA9
import Derived.Test.YtdmhdbebjjhopaaPA9
import Derived.Test.YtdmhdbebjjhopaaA1
namespace Go.Proofs.Ytdmhdbebjjhopaa.PA
open Go Go.RowKit Go.Proofs.YtdmhdbebjjhopaaW.PrintWords Go.Proofs.YtdmhdbebjjhopaaW.PrintLast Go.Proofs.YtdmhdbebjjhopaaW.PrintMore Go.Proofs.Ytdmhdbebjjhopaa.M
set_option linter.unusedVariables false
set_option linter.unusedSimpArgs false

theorem two_pow_pos' (n : Nat) : (0 : Int) < 2 ^ n := Int.pow_pos (by omega)
theorem ref_class {x : Int} : ∀ (n : Nat) (x : Int) (c : Nat), 0 ≤ x → x ≤ 9223372036854775807 → IsLen x n → (x = 0 → n = 0) → n + c ≤ 1000 → Ev (fun k => flagstoneref39_Class.l0 k x (c : Int)) ((n : Int) + c)
  | 0, x, c, h0, h1, hl, _, _ => by
    have : x = 0 := by have := hl.1; simp at this; omega
    subst this
    refine Ev.step (f := fun _ => some (c : Int)) (fun k => by simp only [flagstoneref39_Class.l0]; rw [if_neg (by decide)]) ?_
    rw [show ((0 : Nat) : Int) + c = c by omega]
    exact Ev.now _
  | n + 1, x, c, h0, h1, hl, hz, hc => by
    have hx : 0 < x := by
      rcases Int.lt_or_le 0 x with h | h
      · exact h
      · have := hz (by omega); omega
    obtain ⟨l1, l2⟩ := hl
    have l2 := l2 hx
    have hp : (2 : Int) ^ (n + 1) = 2 * 2 ^ n := by rw [Int.pow_succ]; omega
    rw [hp] at l1 l2
    have hn : n = 0 ∨ ∃ q : Int, (2 : Int) ^ n = 2 * q := by
      cases n with
      | zero => exact .inl rfl
      | succ n => exact .inr ⟨2 ^ n, by rw [Int.pow_succ]; omega⟩
    refine Ev.step (fun k => by simp only [flagstoneref39_Class.l0]; rfl) ?_
    rw [Int.tdiv_eq_ediv_of_nonneg h0, w64_id (x := x / 2) (by omega) (by omega), w64_id (x := (c : Int) + 1) (by omega) (by omega), show (c : Int) + 1 = ((c + 1 : Nat) : Int) by omega]
    have := ref_class (x := x) n (x / 2) (c + 1) (by omega) (by omega) ⟨by omega, fun h => by
      rcases hn with hn | ⟨q, hq⟩
      · subst hn; simp; omega
      · omega⟩ (fun h => by
      rcases hn with hn | ⟨q, hq⟩
      · exact hn
      · exfalso
        have := two_pow_pos' n
        omega) (by omega)
    rw [show ((n + 1 : Nat) : Int) + c = (n : Int) + ((c + 1 : Nat) : Int) by omega]
    exact Ev.pos (by omega) this
theorem refClass_is {x : Int} (hx : x ≤ 9223372036854775807) : Ev (fun k => flagstoneref39_Class.f k x) (classS x) := by
  unfold flagstoneref39_Class.f
  by_cases h : 0 < x
  · obtain ⟨n, e, hn, hl, _⟩ := class_len x
    rw [show IntKind.u64.wrap (mx x 0) = x by rw [u64]; unfold mx; split <;> omega] at hl
    have := ref_class (x := x) n x 0 (by omega) hx hl (fun h => by omega) (by omega)
    rw [e]
    simpa using this
  · rw [class_zero (by omega)]
    exact Ev.step (f := fun _ => some 0) (fun k => by simp only [flagstoneref39_Class.l0]; rw [if_neg h]) (Ev.now _)
theorem refFloor_is {a b : Int} (hb : b ≠ 0) : flagstoneref39_floor.f a b = some (floorS a b) := by
  unfold flagstoneref39_floor.f floorS
  rw [if_neg hb]
  split <;> rfl
theorem ref_pred {s : List S34} {i : Nat} {arm cap : Int} (hm : s.length ≤ 4611686018427387904) (hi : i < s.length) (hc : ∀ x ∈ s, x.f3 ≤ 9223372036854775807) :
    ∀ m t : Nat, i - t = m → t ≤ i → ∀ n sum n' sum' : Int,
    accS (fitS true arm (classS (rd_T34 s i).f3)) ((s.take i).drop t) n sum = accS (fitS true arm (classS (rd_T34 s i).f3)) (s.take i) 0 0 →
    accS (fitS false arm (classS (rd_T34 s i).f3)) ((s.take i).drop t) n' sum' = accS (fitS false arm (classS (rd_T34 s i).f3)) (s.take i) 0 0 →
    Ev (fun k => flagstoneref39_Predict.l0 k s (i : Int) arm cap sum' n' sum n (t : Int)) (predS s i (classS (rd_T34 s i).f3) arm cap) := by
  intro m
  have hlen : (s.take i).length = i := by rw [List.length_take]; omega
  induction m with
  | zero =>
    intro t hmt ht n sum n' sum' e e'
    rw [List.drop_of_length_le (by omega)] at e e'
    simp only [accS] at e e'
    refine Ev.step (fun k => by simp only [flagstoneref39_Predict.l0]; rfl) ?_
    unfold predS
    rw [← e, ← e']
    refine Ev.neg (by omega) (Ev.both (fun h => ?_) (fun h => Ev.both (fun h2 => ?_) (fun h2 => ?_)))
    · rw [refFloor_is (by omega), if_pos h]; exact Ev.now _
    · rw [refFloor_is (by omega), if_neg h, if_pos h2]; exact Ev.now _
    · rw [refFloor_is (by decide), if_neg h, if_neg h2]; exact Ev.now _
  | succ m ih =>
    intro t hmt ht n sum n' sum' e e'
    have hlt : t < (s.take i).length := by omega
    have hls : t < s.length := by omega
    have hw : wrap64 ((t : Int) + 1) = ((t + 1 : Nat) : Int) := by rw [w64_id (by omega) (by omega)]; omega
    have rt := rd_T hls
    rw [List.drop_eq_getElem_cons hlt, List.getElem_take] at e e'
    have hx : s[t].f3 ≤ 9223372036854775807 := hc _ (List.getElem_mem hls)
    have hy : (rd_T34 s i).f3 ≤ 9223372036854775807 := by rw [rd_T hi]; exact hc _ (List.getElem_mem hi)
    generalize s[t] = x at rt e e' hx
    simp only [accS] at e e'
    have next := ih (t + 1) (by omega) (by omega)
    refine Ev.step (fun k => by simp only [flagstoneref39_Predict.l0]; rfl) ?_
    rw [rt, hw]
    refine Ev.pos (by omega) (Ev.pos (by omega) (Ev.pos (by omega) (Ev.both (fun ha => ?_) (fun ha => ?_))))
    · have f0 : fitS false arm (classS (rd_T34 s i).f3) x = true := by unfold fitS; rw [decide_eq_true ha]; rfl
      rw [if_pos f0] at e'
      refine Ev.bind (refClass_is hx) (Ev.pos (by omega) (Ev.pos (by omega) (Ev.bind (refClass_is hy) (Ev.both (fun hs => ?_) (fun hs => ?_)))))
      · have f1 : fitS true arm (classS (rd_T34 s i).f3) x = true := by unfold fitS; rw [decide_eq_true ha, hs]; simp
        rw [if_pos f1] at e
        exact next _ _ _ _ e e'
      · have f1 : ¬ fitS true arm (classS (rd_T34 s i).f3) x = true := by unfold fitS; rw [decide_eq_true ha]; simpa using hs
        rw [if_neg f1] at e
        exact next _ _ _ _ e e'
    · have f0 : ∀ b, ¬ fitS b arm (classS (rd_T34 s i).f3) x = true := fun b => by unfold fitS; rw [decide_eq_false ha]; simp
      rw [if_neg (f0 _)] at e e'
      exact next _ _ _ _ e e'
theorem refPredict_is (s : List S34) (i arm cap : Int) (hm : s.length ≤ 4611686018427387904) (hc : ∀ x ∈ s, x.f3 ≤ 9223372036854775807) : Ev (fun k => flagstoneref39_Predict.f k s i arm cap) (predictS s i arm cap) := by
  unfold flagstoneref39_Predict.f predictS
  have stop : ∀ b, b = true → Ev (fun k => flagstoneref39_Predict.j0 k s i arm cap b) 0 := fun b hb => by
    subst hb
    exact Ev.step (f := fun _ => some 0) (fun k => by simp only [flagstoneref39_Predict.j0]; rw [if_pos trivial]) (Ev.now _)
  by_cases h : 0 ≤ i ∧ i < s.length
  · rw [if_pos h]
    obtain ⟨h0, h1⟩ := h
    obtain ⟨i, rfl⟩ := Int.eq_ofNat_of_zero_le h0
    rw [Int.toNat_natCast]
    refine Ev.neg (by omega) ?_
    rw [decide_eq_false (by omega)]
    refine Ev.step (fun k => by simp only [flagstoneref39_Predict.j0]; rfl) ?_
    exact Ev.neg (by decide) (ref_pred hm (by omega) hc _ 0 rfl (by omega) 0 0 0 0 (by simp) (by simp))
  · rw [if_neg h]
    refine Ev.both (fun _ => stop _ rfl) (fun h2 => stop _ (decide_eq_true (by omega)))
end Go.Proofs.Ytdmhdbebjjhopaa.PA
