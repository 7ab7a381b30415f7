/- A greater effect never has a greater wealth with up, and never a smaller one without, after any number of scores. No condition beyond the statement's own guard. -/
import Derived.Test.YtafcnpfhihnmgaaPA10
import Derived.Test.YtafcnpfhihnmgaaP1
import Derived.Test.YtafcnpfhihnmgaaP3
import Derived.Test.YtafcnpfhihnmgaaM7w
namespace Go.Proofs.Ytafcnpfhihnmgaa.Pure
open Go Go.RowKit Go.Proofs.Ytafcnpfhihnmgaa.PA Go.Proofs.YtafcnpfhihnmgaaW.PrintWords Go.Proofs.YtafcnpfhihnmgaaW.PrintLast Go.Proofs.YtafcnpfhihnmgaaW.PrintMore Go.Proofs.Ytafcnpfhihnmgaa.M
set_option linter.unusedVariables false
set_option linter.unusedSimpArgs false

theorem mono_l0 {S : List S28} {p q u v : List Int} (hS : S.length ≤ 30) (lp : p.length = S.length) (lq : q.length = S.length) (lu : u.length = S.length) (lv : v.length = S.length)
    (h1 : ∀ i : Nat, i < S.length → rd q (i : Int) ≤ rd p (i : Int)) (h2 : ∀ i : Nat, i < S.length → rd u (i : Int) ≤ rd v (i : Int)) (h3 : ∀ i : Nat, i < S.length → 0 ≤ rd p (i : Int) ∧ rd p (i : Int) ≤ 2305843009213693952) :
    ∀ n i, S.length - i = n → i ≤ S.length → Ev (fun k => flagstonelaw40_WealthMonotone.l0 k S p q u v (i : Int)) true := by
  intro n
  induction n with
  | zero =>
    intro i hn hi
    refine Ev.step (f := fun _ => some true) (fun k => ?_) (Ev.now _)
    simp only [flagstonelaw40_WealthMonotone.l0]
    rw [if_neg (by omega)]
  | succ n ih =>
    intro i hn hi
    have hw : wrap64 ((i : Int) + 1) = ((i + 1 : Nat) : Int) := by rw [w64_id (by omega) (by omega)]; omega
    have g1 := h1 i (by omega)
    have g2 := h2 i (by omega)
    have g3 := h3 i (by omega)
    refine Ev.step (f := fun k => flagstonelaw40_WealthMonotone.j3 k S p q u v (i : Int) false) (fun k => ?_) (Ev.step (fun k => ?_) (ih (i + 1) (by omega) (by omega)))
    · simp only [flagstonelaw40_WealthMonotone.l0]
      rw [if_pos (by omega), if_pos (by omega), if_pos (by omega), if_pos (by omega), if_neg (by omega), if_pos (by omega), if_pos (by omega), if_neg (by omega), if_neg (by omega), decide_eq_false (by omega)]
    · simp only [flagstonelaw40_WealthMonotone.j3]
      rw [if_neg (by decide), hw]
theorem mono_j0 {S : List S28} {x y : Int} (hS : S.length ≤ 30) (hx : -1000 ≤ x) (hxy : x ≤ y) (hy : y ≤ 1000) : Ev (fun k => flagstonelaw40_WealthMonotone.j0 k S x y) true := by
  refine Ev.step (f := fun k => (wealth_Path.f k S x true).bind fun t255 => ((wealth_Path.f k S y true).bind fun t258 => ((wealth_Path.f k S x false).bind fun t261 => ((wealth_Path.f k S y false).bind fun t264 => (if (t255.length : Int) = (S.length : Int) then (if (t258.length : Int) = (S.length : Int) then (if (t261.length : Int) = (S.length : Int) then (flagstonelaw40_WealthMonotone.j1 k S t255 t258 t261 t264 ((t264.length : Int) != (S.length : Int))) else (flagstonelaw40_WealthMonotone.j1 k S t255 t258 t261 t264 true)) else (flagstonelaw40_WealthMonotone.j1 k S t255 t258 t261 t264 true)) else (flagstonelaw40_WealthMonotone.j1 k S t255 t258 t261 t264 true)))))) (fun k => by simp only [flagstonelaw40_WealthMonotone.j0]) ?_
  refine Ev.bind (wealth_Path_is _ _ _ (by omega)) (Ev.bind (wealth_Path_is _ _ _ (by omega)) (Ev.bind (wealth_Path_is _ _ _ (by omega)) (Ev.bind (wealth_Path_is _ _ _ (by omega)) ?_)))
  have l := fun e up => pathS_length e up S 4294967296 4294967296 4294967296
  refine Ev.pos (by rw [l]) (Ev.pos (by rw [l]) (Ev.pos (by rw [l]) ?_))
  rw [l y false]
  refine Ev.step (fun k => ?_) (mono_l0 hS (l x true) (l y true) (l x false) (l y false)
    (pathS_up hx hxy hy S _ _ _ _ _ _ (by decide) (by decide) (by decide) (by decide) (by decide) (by decide) (by decide) (by decide) (by decide))
    (pathS_down hx hxy hy S _ _ _ _ _ _ (by decide) (by decide) (by decide) (by decide) (by decide) (by decide) (by decide) (by decide) (by decide))
    (pathS_range x true S _ _ _) S.length 0 (by omega) (by omega))
  simp only [flagstonelaw40_WealthMonotone.j1]
  rw [if_neg (by simp)]
  rfl
theorem WealthMonotone : flagstonelaw40_WealthMonotone.Pure := by
  intro l0 a1 a2 m0 y0 w0 w1 w2
  apply Ev.rounds
  unfold flagstonelaw40_WealthMonotone.f
  refine Ev.bind awake_is (Ev.pos rfl (Ev.both (fun _ => Ev.now _) (fun hl => ?_)))
  obtain ⟨S, hS, hS30⟩ := scores_are l0 (by omega)
  refine Ev.bind hS ?_
  have t1 := tmod_small (wrap64 (mn a1 a2)) 1001 (by decide)
  have t2 := tmod_small (wrap64 (mx a1 a2)) 1001 (by decide)
  exact Ev.both (fun c => mono_j0 hS30 (by omega) (by omega) (by omega)) (fun c => mono_j0 hS30 (by omega) (by omega) (by omega))
end Go.Proofs.Ytafcnpfhihnmgaa.Pure
