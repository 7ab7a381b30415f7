/- Made scores: there are at most thirty of them. -/
import Derived.Test.YtdclcdaoidbgbaaPA4
import Derived.Test.YtdclcdaoidbgbaaM3
namespace Go.Proofs.Ytdclcdaoidbgbaa.PA
open Go Go.RowKit Go.Proofs.YtdclcdaoidbgbaaW.PrintWords Go.Proofs.YtdclcdaoidbgbaaW.PrintLast Go.Proofs.YtdclcdaoidbgbaaW.PrintMore Go.Proofs.Ytdclcdaoidbgbaa.M
set_option linter.unusedVariables false
set_option linter.unusedSimpArgs false

/-- The next number of a source. -/
theorem next_is (l : List Int) (at_ n : Int) (h0 : 0 ≤ at_) (h1 : at_ ≤ l.length) (hm : l.length ≤ 4611686018427387904) (hn : n ≠ 0) :
    ∃ x a', flagstonedata_Source_Next.f l at_ n = some (x, a') ∧ 0 ≤ a' ∧ a' ≤ l.length ∧ (x = 0 ∧ a' = at_ ∨ at_ < l.length ∧ a' = at_ + 1 ∧ x = Int.tmod (wrap64 (rd l at_)) n) := by
  unfold flagstonedata_Source_Next.f
  by_cases c : at_ ≥ (l.length : Int)
  · rw [if_pos c]; exact ⟨_, _, rfl, h0, h1, .inl ⟨rfl, rfl⟩⟩
  · have e1 : wrap64 (at_ + 1) = at_ + 1 := w64_id (by omega) (by omega)
    have e2 : wrap64 (at_ + 1 - 1) = at_ := by rw [w64_id (by omega) (by omega)]; omega
    rw [if_neg c, e1, e2, if_pos h0, if_pos (by omega), if_neg hn]
    exact ⟨_, _, rfl, by omega, by omega, .inr ⟨by omega, rfl, rfl⟩⟩
theorem tmod_small (x n : Int) (hn : 0 < n) : -n < Int.tmod x n ∧ Int.tmod x n < n := by
  have h1 := Int.tmod_lt_of_pos x hn
  have h2 := Int.tmod_lt_of_pos (-x) hn
  rw [Int.neg_tmod] at h2
  omega
theorem tmod_abs (x : Int) {n : Int} (h0 : n ≠ 0) (h1 : -1000 ≤ n) (h2 : n ≤ 1000) : -1000 ≤ Int.tmod x n ∧ Int.tmod x n ≤ 1000 := by
  rcases Int.lt_or_le 0 n with h | h
  · have := tmod_small x n h; omega
  · have := tmod_small x (-n) (by omega)
    rw [Int.tmod_neg] at this
    omega
theorem scores_fine (l : List Int) (hm : l.length ≤ 4611686018427387904) : ∃ S, Ev (fun k => flagstonedata_Scores.f k l) S ∧ S.length ≤ 30 ∧ ∀ s ∈ S, -2000 ≤ s.f0 ∧ s.f0 ≤ 2000 := by
  unfold flagstonedata_Scores.f
  have go : ∀ n i, 30 - i = n → i ≤ 30 → ∀ (out : List S50) (a : Int), out.length = i → (∀ s ∈ out, -2000 ≤ s.f0 ∧ s.f0 ≤ 2000) → 0 ≤ a → a ≤ l.length → ∃ S, Ev (fun k => flagstonedata_Scores.l0 k out l a) S ∧ S.length ≤ 30 ∧ ∀ s ∈ S, -2000 ≤ s.f0 ∧ s.f0 ≤ 2000 := by
    intro n
    induction n with
    | zero =>
      intro i hn hi out a ho hs h0 h1
      refine ⟨out, Ev.step (f := fun k => if decide (a < (l.length : Int)) = true then (flagstonedata_Scores.j1 k out (decide ((out.length : Int) < 30)) l a) else (flagstonedata_Scores.j1 k out false l a)) (fun k => by simp only [flagstonedata_Scores.l0, flagstonedata_Source_More.f, Option.bind_some]) ?_, by omega, hs⟩
      have stop : Ev (fun k => flagstonedata_Scores.j1 k out false l a) out := Ev.step (f := fun _ => some out) (fun k => by simp only [flagstonedata_Scores.j1]; rw [if_neg (by decide)]) (Ev.now _)
      rw [decide_eq_false (show ¬ (out.length : Int) < 30 by omega)]
      exact Ev.both (fun _ => stop) (fun _ => stop)
    | succ n ih =>
      intro i hn hi out a ho hs h0 h1
      have stop : Ev (fun k => flagstonedata_Scores.j1 k out false l a) out := Ev.step (f := fun _ => some out) (fun k => by simp only [flagstonedata_Scores.j1]; rw [if_neg (by decide)]) (Ev.now _)
      by_cases hmore : a < (l.length : Int)
      · obtain ⟨x1, a1, e1, b1, c1, d1⟩ := next_is l a 20 h0 h1 hm (by decide)
        obtain ⟨x2, a2, e2, b2, c2, d2⟩ := next_is l a1 100 b1 c1 hm (by decide)
        obtain ⟨x3, a3, e3, b3, c3, d3⟩ := next_is l a2 256 b2 c2 hm (by decide)
        have r2 : -100 < x2 ∧ x2 < 100 := by
          rcases d2 with d2 | d2
          · omega
          · rw [d2.2.2]; exact tmod_small _ 100 (by decide)
        have e4 : wrap64 (1 + x2) = 1 + x2 := w64_id (by omega) (by omega)
        have e5 : wrap64 (2 * (1 + x2)) = 2 * (1 + x2) := w64_id (by omega) (by omega)
        have e6 : wrap64 (2 * (1 + x2) + 1) = 2 * (1 + x2) + 1 := w64_id (by omega) (by omega)
        obtain ⟨S, hS, hl, hs2⟩ := ih (i + 1) (by omega) (by omega) (out ++ [(⟨wrap64 ((Int.tmod x3 (2 * (1 + x2) + 1)) - (1 + x2)), wrap64 (1 + x1), wrap64 ((wrap64 (1 + x1)) + (1 + x2))⟩ : S50)]) a3 (by simp; omega) (fun s hx => by
          rcases List.mem_append.mp hx with hx | hx
          · exact hs s hx
          · rw [List.mem_singleton] at hx
            subst hx
            have := tmod_abs x3 (n := 2 * (1 + x2) + 1) (by omega) (by omega) (by omega)
            show -2000 ≤ wrap64 _ ∧ wrap64 _ ≤ 2000
            rw [w64_id (by omega) (by omega)]
            omega) b3 c3
        refine ⟨S, Ev.step (f := fun k => if decide (a < (l.length : Int)) = true then (flagstonedata_Scores.j1 k out (decide ((out.length : Int) < 30)) l a) else (flagstonedata_Scores.j1 k out false l a)) (fun k => by simp only [flagstonedata_Scores.l0, flagstonedata_Source_More.f, Option.bind_some]) (Ev.pos (decide_eq_true hmore) ?_), hl, hs2⟩
        rw [decide_eq_true (show (out.length : Int) < 30 by omega)]
        refine Ev.step (fun k => ?_) hS
        simp only [flagstonedata_Scores.j1]
        rw [if_pos trivial, e1]
        simp only [Option.bind_some]
        rw [e2]
        simp only [Option.bind_some]
        rw [e3]
        simp only [Option.bind_some]
        rw [e4, e5, e6, if_neg (by omega), if_pos (by omega)]
      · refine ⟨out, Ev.step (f := fun k => if decide (a < (l.length : Int)) = true then (flagstonedata_Scores.j1 k out (decide ((out.length : Int) < 30)) l a) else (flagstonedata_Scores.j1 k out false l a)) (fun k => by simp only [flagstonedata_Scores.l0, flagstonedata_Source_More.f, Option.bind_some]) (Ev.neg (by simpa using hmore) stop), by omega, hs⟩
  exact go 30 0 (by omega) (by omega) [] 0 rfl (fun s hx => by cases hx) (by omega) (by omega)
theorem scores_are (l : List Int) (hm : l.length ≤ 4611686018427387904) : ∃ S, Ev (fun k => flagstonedata_Scores.f k l) S ∧ S.length ≤ 30 := by
  obtain ⟨S, h1, h2, _⟩ := scores_fine l hm
  exact ⟨S, h1, h2⟩
end Go.Proofs.Ytdclcdaoidbgbaa.PA
