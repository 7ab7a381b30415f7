/- A subject behind a list of samples, once in each arm: the two scores that it may have. -/
import Derived.Test.YtdmhdbebjjhopaaA3
import Derived.Test.YtdmhdbebjjhopaaA6
namespace Go.Proofs.Ytdmhdbebjjhopaa.PA
open Go Go.RowKit Go.Proofs.YtdmhdbebjjhopaaW.PrintWords Go.Proofs.YtdmhdbebjjhopaaW.PrintLast Go.Proofs.YtdmhdbebjjhopaaW.PrintMore Go.Proofs.Ytdmhdbebjjhopaa.M
set_option linter.unusedVariables false
set_option linter.unusedSimpArgs false

theorem rd_last (S : List S34) (x : S34) : rd_T34 (S ++ [x]) (S.length : Int) = x := by
  rw [rd_T (show S.length < (S ++ [x]).length by simp)]
  simp
theorem ok_last {S : List S34} {x : S34} {c t cap : Int} (hS : ∀ y ∈ S, SampleIn cap y) (hx : 0 ≤ x.f1 ∧ x.f1 ≤ cap) (ha : x.f0.f4 = 1 ∨ x.f0.f4 = 2) (h0 : 1 ≤ c) (h1 : c ≤ 10000) (h2 : 1 ≤ t) (h3 : t ≤ 10000) (h4 : 1 ≤ cap) (h5 : cap ≤ 1048576) : okS (S ++ [x]) (S.length : Int) c t cap = true := by
  unfold okS
  simp only [Bool.and_eq_true, decide_eq_true_eq, List.all_eq_true]
  refine ⟨⟨⟨by omega, by simp; omega, h0, h1, h2, h3, h4, h5⟩, fun y hy => ?_⟩, by rw [rd_last]; exact ha⟩
  rcases List.mem_append.mp (List.mem_of_mem_take hy) with hy | hy
  · exact ⟨(hS y hy).2.2.1, (hS y hy).2.2.2.1⟩
  · rw [List.mem_singleton] at hy
    subst hy
    exact hx
theorem predict_same {S : List S34} {x y : S34} (hf : x.f3 = y.f3) (arm cap : Int) : predictS (S ++ [x]) (S.length : Int) arm cap = predictS (S ++ [y]) (S.length : Int) arm cap := by
  unfold predictS
  rw [if_pos (by simp; omega), if_pos (by simp; omega), rd_last, rd_last, hf, Int.toNat_natCast]
  unfold predS
  simp only [List.take_left]
/-- The two scores. -/
theorem both_last {S : List S34} {x y : S34} {c t cap : Int} {adj : Bool} (hl : S.length ≤ 1000) (hS : ∀ y ∈ S, SampleIn cap y) (hx : 0 ≤ x.f1 ∧ x.f1 ≤ cap) (hy : 0 ≤ y.f1 ∧ y.f1 ≤ cap) (ax : x.f0.f4 = 1) (ay : y.f0.f4 = 2) (hf : x.f3 = y.f3) (h0 : 1 ≤ c) (h1 : c ≤ 10000) (h2 : 1 ≤ t) (h3 : t ≤ 10000) (h4 : 1 ≤ cap) (h5 : cap ≤ 1048576) :
    ∃ n m u r : Int, ofS (S ++ [x]) (S.length : Int) c t cap adj = (n, u, r, true) ∧ ofS (S ++ [y]) (S.length : Int) c t cap adj = (m, u, r, true) ∧ u = c * t * cap ∧ c * n + t * m = c * t * (c + t) * (y.f1 - x.f1) ∧
      1 ≤ u ∧ u ≤ r ∧ r = cap * (2 * (c * t) + (c + t) * (mx c t)) ∧ r ≤ 562949953421312 ∧ u - r ≤ n ∧ n ≤ r - u ∧ u - r ≤ m ∧ m ≤ r - u := by
  obtain ⟨p1, p2, _, _, _, _, e1, e2, ex, x1, x2, x3, x4, x5⟩ := of_good (adj := adj) (by simp; omega) (ok_last hS hx (.inl ax) h0 h1 h2 h3 h4 h5)
  obtain ⟨q1, q2, _, _, _, _, d1, d2, ey, y1, y2, y3, y4, y5⟩ := of_good (adj := adj) (by simp; omega) (ok_last hS hy (.inr ay) h0 h1 h2 h3 h4 h5)
  rw [← predict_same hf 1 cap, ← e1] at d1
  rw [← predict_same hf 2 cap, ← e2] at d2
  subst d1
  subst d2
  rw [rd_last, if_pos ax] at ex
  rw [rd_last, if_neg (by omega)] at ey
  rw [ex] at x1 x2 x3 x4 x5
  rw [ey] at y4 y5
  refine ⟨_, _, _, _, ex, ey, rfl, ?_, x1, x2, rfl, x3, x4, x5, y4, y5⟩
  grind
end Go.Proofs.Ytdmhdbebjjhopaa.PA
