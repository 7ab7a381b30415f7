/- Of of the program and of the document's text are the same. No condition. -/
import Derived.Test.YtdmhdbebjjhopaaPA12
import Derived.Test.YtdmhdbebjjhopaaA3
import Derived.Test.YtdmhdbebjjhopaaA5
import Derived.Test.YtdmhdbebjjhopaaA7
import Derived.Test.YtdmhdbebjjhopaaA8
namespace Go.Proofs.Ytdmhdbebjjhopaa.Pure
open Go Go.RowKit Go.Proofs.Ytdmhdbebjjhopaa.PA Go.Proofs.YtdmhdbebjjhopaaW.PrintWords Go.Proofs.YtdmhdbebjjhopaaW.PrintLast Go.Proofs.YtdmhdbebjjhopaaW.PrintMore Go.Proofs.Ytdmhdbebjjhopaa.M
set_option linter.unusedVariables false
set_option linter.unusedSimpArgs false

theorem tells_l2 {k0 : Int} {adj : Bool} {S : List S34} {W : List S42} {C : List Int} {i j : Nat} (hS : S.length ≤ 40) (hc : ∀ x ∈ S, x.f3 ≤ 9223372036854775807) (hi : i < W.length) (hj : j < C.length)
    (h : Ev (fun k => flagstonelaw39_ScoreTells.l1 k k0 adj S W C (i : Int) (wrap64 ((j : Int) + 1))) true) :
    ∀ m n : Nat, S.length - n = m → n ≤ 100 → Ev (fun k => flagstonelaw39_ScoreTells.l2 k k0 adj S W C (i : Int) (j : Int) (n : Int)) true := by
  intro m
  induction m using Nat.strongRecOn with
  | ind m ih =>
    intro n hm hn
    have stop : ∀ b, b = false → Ev (fun k => flagstonelaw39_ScoreTells.j4 k k0 adj S W C (i : Int) (j : Int) (n : Int) b) true := fun b hb => by
      subst hb
      refine Ev.step (fun k => by simp only [flagstonelaw39_ScoreTells.j4]; rfl) ?_
      exact Ev.neg (by decide) h
    refine Ev.step (fun k => by simp only [flagstonelaw39_ScoreTells.l2]; rfl) ?_
    refine Ev.both (fun hlt => ?_) (fun _ => stop _ rfl)
    by_cases h3 : (j : Int) < 3
    · have hw : wrap64 ((n : Int) + 3) = ((n + 3 : Nat) : Int) := by rw [w64_id (by omega) (by omega)]; omega
      have next : Ev (fun k => flagstonelaw39_ScoreTells.j5 k k0 adj S W C (i : Int) (j : Int) (n : Int) false) true := by
        refine Ev.step (fun k => by simp only [flagstonelaw39_ScoreTells.j5]; rfl) ?_
        rw [hw]
        exact Ev.neg (by decide) (ih (S.length - (n + 3)) (by omega) (n + 3) rfl (by omega))
      rw [decide_eq_true h3]
      refine Ev.step (fun k => by simp only [flagstonelaw39_ScoreTells.j4]; rfl) ?_
      refine Ev.pos trivial (Ev.pos (by omega) (Ev.pos (by omega) (Ev.pos (by omega) (Ev.pos (by omega) (Ev.bind (Of_is _ _ _ _ _ _ _ (by omega)) (Ev.bind (refOf_is _ _ _ _ _ _ _ (by omega) hc) (Ev.neg (by simp) (Ev.neg (by simp) (Ev.both (fun hk => ?_) (fun _ => next))))))))))
      rw [of_flag] at hk
      rw [of_valid (by omega) hk]
      exact Ev.bind (Ev.now _) next
    · rw [decide_eq_false h3]
      exact stop _ rfl
theorem tells_l1 {k0 : Int} {adj : Bool} {S : List S34} {W : List S42} {C : List Int} {i : Nat} (hS : S.length ≤ 40) (hc : ∀ x ∈ S, x.f3 ≤ 9223372036854775807) (hi : i < W.length) (hC : C.length ≤ 5)
    (h : Ev (fun k => flagstonelaw39_ScoreTells.l0 k k0 adj S W C (wrap64 ((i : Int) + 1))) true) :
    ∀ m j : Nat, C.length - j = m → j ≤ C.length → Ev (fun k => flagstonelaw39_ScoreTells.l1 k k0 adj S W C (i : Int) (j : Int)) true := by
  intro m
  induction m with
  | zero =>
    intro j hm hj
    refine Ev.step (fun k => by simp only [flagstonelaw39_ScoreTells.l1]; rfl) ?_
    exact Ev.neg (by omega) h
  | succ m ih =>
    intro j hm hj
    have hw : wrap64 ((j : Int) + 1) = ((j + 1 : Nat) : Int) := by rw [w64_id (by omega) (by omega)]; omega
    refine Ev.step (fun k => by simp only [flagstonelaw39_ScoreTells.l1]; rfl) ?_
    refine Ev.pos (by omega) (Ev.pos (by omega) (Ev.pos (by omega) (Ev.pos (by omega) (Ev.bind (Of_is _ _ _ _ _ _ _ (by omega)) (Ev.bind (refOf_is _ _ _ _ _ _ _ (by omega) hc) (Ev.neg (by simp) ?_))))))
    generalize ofS S k0 (rd_T42 W (i : Int)).f1 (rd_T42 W (i : Int)).f2 (rd C (j : Int)) adj = v
    rw [show (v.2.2.2 != v.2.2.2) = false by simp]
    refine Ev.step (fun k => by simp only [flagstonelaw39_ScoreTells.j2]; rfl) ?_
    refine Ev.neg (by decide) (tells_l2 hS hc hi (by omega) ?_ _ 0 rfl (by omega))
    rw [hw]
    exact ih (j + 1) (by omega) (by omega)
theorem tells_l0 {k0 : Int} {adj : Bool} {S : List S34} {W : List S42} {C : List Int} (hS : S.length ≤ 40) (hc : ∀ x ∈ S, x.f3 ≤ 9223372036854775807) (hW : W.length ≤ 5) (hC : C.length ≤ 5) :
    ∀ m i : Nat, W.length - i = m → i ≤ W.length → Ev (fun k => flagstonelaw39_ScoreTells.l0 k k0 adj S W C (i : Int)) true := by
  intro m
  induction m with
  | zero =>
    intro i hm hi
    refine Ev.step (fun k => by simp only [flagstonelaw39_ScoreTells.l0]; rfl) ?_
    exact Ev.neg (by omega) (Ev.now _)
  | succ m ih =>
    intro i hm hi
    have hw : wrap64 ((i : Int) + 1) = ((i + 1 : Nat) : Int) := by rw [w64_id (by omega) (by omega)]; omega
    refine Ev.step (fun k => by simp only [flagstonelaw39_ScoreTells.l0]; rfl) ?_
    refine Ev.pos (by omega) (tells_l1 hS hc (by omega) hC ?_ _ 0 rfl (by omega))
    rw [hw]
    exact ih (i + 1) (by omega) (by omega)
theorem ScoreTells : flagstonelaw39_ScoreTells.Pure := by
  intro l0 v0 v1 v2 a b k0 cap adj m0 y0 w0 _ _ _ _ _ _ _
  apply Ev.rounds
  unfold flagstonelaw39_ScoreTells.f
  refine Ev.bind awake39_is (Ev.pos rfl (Ev.both (fun _ => Ev.now _) (fun hl => ?_)))
  obtain ⟨S, hS, hS40, hin⟩ := samples_are l0 (u8s w0) (by omega) 200 (by decide) (by decide)
  have hc : ∀ x ∈ S, x.f3 ≤ 9223372036854775807 := fun x hx => by have := (hin x hx).2.2.2.2.2; omega
  exact Ev.bind hS (tells_l0 hS40 hc (by simp) (by simp) _ 0 rfl (by omega))
end Go.Proofs.Ytdmhdbebjjhopaa.Pure
