/- Made exposures: there are at most a hundred of them; and the alarm, of the program and of the document's text. -/
import Derived.Test.YthkgjkmcmkpkcaaB3
import Derived.Test.YthkgjkmcmkpkcaaPA6
import Derived.Test.YthkgjkmcmkpkcaaM5
namespace Go.Proofs.Ythkgjkmcmkpkcaa.PA
open Go Go.RowKit Go.Proofs.YthkgjkmcmkpkcaaW.PrintWords Go.Proofs.YthkgjkmcmkpkcaaW.PrintLast Go.Proofs.YthkgjkmcmkpkcaaW.PrintMore Go.Proofs.Ythkgjkmcmkpkcaa.M
set_option linter.unusedVariables false
set_option linter.unusedSimpArgs false

theorem next_in {l : List Int} (hl : ∀ x ∈ l, 0 ≤ x ∧ x ≤ 255) (at_ n : Int) (h0 : 0 ≤ at_) (h1 : at_ ≤ l.length) (hm : l.length ≤ 4611686018427387904) (hn : 0 < n) :
    ∃ x a', flagstonedata_Source_Next.f l at_ n = some (x, a') ∧ 0 ≤ a' ∧ a' ≤ l.length := by
  unfold flagstonedata_Source_Next.f
  by_cases c : at_ ≥ (l.length : Int)
  · rw [if_pos c]; exact ⟨_, _, rfl, h0, h1⟩
  · have e1 : wrap64 (at_ + 1) = at_ + 1 := w64_id (by omega) (by omega)
    have e2 : wrap64 (at_ + 1 - 1) = at_ := by rw [w64_id (by omega) (by omega)]; omega
    rw [if_neg c, e1, e2, if_pos h0, if_pos (by omega), if_neg (by omega)]
    exact ⟨_, _, rfl, by omega, by omega⟩
theorem wf_wrap (x : Int) : (Lit.int .i64 (wrap64 x)).wf = true := by
  simp only [Lit.wf, Bool.and_eq_true, decide_eq_true_eq]
  have h1 : (IntKind.i64).min = -9223372036854775808 := by decide
  have h2 : (IntKind.i64).max = 9223372036854775807 := by decide
  rw [h1, h2]
  unfold wrap64
  omega
theorem exposures_are (l : List Int) (hl : ∀ x ∈ l, 0 ≤ x ∧ x ≤ 255) (hm : l.length ≤ 4611686018427387904) :
    ∃ X, Ev (fun k => flagstonelaw42_exposures.f k l) X ∧ X.length ≤ 100 ∧ ∀ x ∈ X, (Lit.int .i64 x.f5).wf = true := by
  unfold flagstonelaw42_exposures.f
  have start : ∀ k (out : List S47) (a : Int), flagstonelaw42_exposures.l0 (k + 1) out l a = if decide (a < (l.length : Int)) = true then (flagstonelaw42_exposures.j1 k out (decide ((out.length : Int) < 100)) l a) else (flagstonelaw42_exposures.j1 k out false l a) := fun k out a => by
    simp only [flagstonelaw42_exposures.l0, flagstonedata_Source_More.f, Option.bind_some]
  have go : ∀ n i, 100 - i = n → i ≤ 100 → ∀ (out : List S47) (a : Int), out.length = i → (∀ x ∈ out, (Lit.int .i64 x.f5).wf = true) → 0 ≤ a → a ≤ l.length → ∃ X, Ev (fun k => flagstonelaw42_exposures.l0 k out l a) X ∧ X.length ≤ 100 ∧ ∀ x ∈ X, (Lit.int .i64 x.f5).wf = true := by
    intro n
    induction n with
    | zero =>
      intro i hn hi out a ho hs h0 h1
      have stop : Ev (fun k => flagstonelaw42_exposures.j1 k out false l a) out := Ev.step (f := fun _ => some out) (fun k => by simp only [flagstonelaw42_exposures.j1]; rw [if_neg (by decide)]) (Ev.now _)
      refine ⟨out, Ev.step (fun k => start k out a) ?_, by omega, hs⟩
      rw [decide_eq_false (show ¬ (out.length : Int) < 100 by omega)]
      exact Ev.both (fun _ => stop) (fun _ => stop)
    | succ n ih =>
      intro i hn hi out a ho hs h0 h1
      have stop : Ev (fun k => flagstonelaw42_exposures.j1 k out false l a) out := Ev.step (f := fun _ => some out) (fun k => by simp only [flagstonelaw42_exposures.j1]; rw [if_neg (by decide)]) (Ev.now _)
      by_cases hmore : a < (l.length : Int)
      · obtain ⟨x1, a1, e1, b1, d1⟩ := next_in hl a 13 h0 h1 hm (by decide)
        obtain ⟨x2, a2, e2, b2, d2⟩ := next_in hl a1 9 b1 d1 hm (by decide)
        obtain ⟨X, hX, hl', hs'⟩ := ih (i + 1) (by omega) (by omega) (out ++ [(⟨(⟨#[97, 110, 110]⟩ : ByteArray), (⟨#[119, 101, 98]⟩ : ByteArray), wrap64 ((out.length : Int) + 1), (out.length : Int), wrap64 (1 + (wrap64 (Int.tdiv x1 6))), wrap64 (1 + (wrap64 (Int.tdiv x2 4)))⟩ : S47)]) a2 (by simp; omega) (fun x hx => by
          rcases List.mem_append.mp hx with hx | hx
          · exact hs x hx
          · rw [List.mem_singleton] at hx
            subst hx
            exact wf_wrap _) b2 d2
        refine ⟨X, Ev.step (fun k => start k out a) (Ev.pos (decide_eq_true hmore) ?_), hl', hs'⟩
        rw [decide_eq_true (show (out.length : Int) < 100 by omega)]
        refine Ev.step (fun k => ?_) hX
        simp only [flagstonelaw42_exposures.j1]
        rw [if_pos trivial, e1]
        simp only [Option.bind_some]
        rw [e2]
        simp only [Option.bind_some]
        rw [if_pos (by omega)]
      · refine ⟨out, Ev.step (fun k => start k out a) (Ev.neg (by simpa using hmore) stop), by omega, hs⟩
  exact go 100 0 (by omega) (by omega) [] 0 rfl (fun x hx => by cases hx) (by omega) (by omega)
theorem pathS_length (w : List S41) : ∀ (xs : List S47) (wl : Int) (cnt : Int → List Int) (out : List Int), (pathS w xs wl cnt out).length ≤ out.length + xs.length
  | [], _, _, _ => by unfold pathS; simp
  | x :: xs, wl, cnt, out => by
    unfold pathS
    split
    · have := pathS_length w xs wl cnt out
      simp only [List.length_cons]; omega
    · have := pathS_length w xs (stepS wl (cnt x.f5) (csOf w x) x.f4).1 (updC cnt x.f5 (stepS wl (cnt x.f5) (csOf w x) x.f4).2) (out ++ [(stepS wl (cnt x.f5) (csOf w x) x.f4).1])
      simp only [List.length_append, List.length_cons, List.length_nil] at this ⊢; omega
/-- The path and the alarm, of both. -/
theorem paths_same (xs : List S47) (w : List S41) (n : Int) (hx : xs.length < 1000) (hw : w.length < 1000) (hf : ∀ x ∈ xs, (Lit.int .i64 x.f5).wf = true) :
    ∃ (P : List Int) (A : Int), P.length < 1000 ∧ Ev (fun k => balance_Path.f k xs w) P ∧ Ev (fun k => flagstoneref42_Path.f k xs w) P ∧ Ev (fun k => balance_Alarm.f k xs w n) A ∧ Ev (fun k => flagstoneref42_Alarm.f k xs w n) A := by
  have h1 := balPath_is xs w (by omega) (by omega) hf
  have h2 := refPath_is xs w (by omega) (by omega)
  have hl := pathS_length w xs 4294967296 (fun _ => [0, 0]) []
  generalize pathS w xs 4294967296 (fun _ => [0, 0]) [] = P at *
  have hl' : P.length < 1000 := by simpa using Nat.lt_of_le_of_lt hl (by simpa using hx)
  refine ⟨P, firstS (thresholdS n 1) 0 P, hl', h1, h2, ?_, ?_⟩
  · exact Ev.bind h1 (Ev.bind (wealth_Threshold_is n 1) (Ev.bind (wealth_First_is P _ (by omega)) (Ev.now _)))
  · exact Ev.bind h2 (Ev.bind (flagstoneref40_Threshold_is n 1) (Ev.bind (flagstoneref40_First_is P _ (by omega)) (Ev.now _)))
end Go.Proofs.Ythkgjkmcmkpkcaa.PA
