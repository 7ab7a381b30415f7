/- A score depends only on its sample and on those before it. No condition. -/
import Derived.Test.YtdmhdbebjjhopaaPA14
import Derived.Test.YtdmhdbebjjhopaaA3
import Derived.Test.YtdmhdbebjjhopaaA7
import Derived.Test.YtdmhdbebjjhopaaA10
namespace Go.Proofs.Ytdmhdbebjjhopaa.Pure
open Go Go.RowKit Go.Proofs.Ytdmhdbebjjhopaa.PA Go.Proofs.YtdmhdbebjjhopaaW.PrintWords Go.Proofs.YtdmhdbebjjhopaaW.PrintLast Go.Proofs.YtdmhdbebjjhopaaW.PrintMore Go.Proofs.Ytdmhdbebjjhopaa.M
set_option linter.unusedVariables false
set_option linter.unusedSimpArgs false

theorem past_l0 {S C : List S34} {k : Nat} (hS : S.length ≤ 1000) (hC : C.length ≤ 1000) (h : ∀ arm, predictS S k arm 90 = predictS C k arm 90) : Ev (fun n => flagstonelaw39_ScorePast.l0 n S (k : Int) C 1) true := by
  have w1 : wrap64 (1 + 1) = 2 := w64_id (by decide) (by decide)
  have w2 : wrap64 (2 + 1) = 3 := w64_id (by decide) (by decide)
  refine Ev.step (fun n => by simp only [flagstonelaw39_ScorePast.l0]; rfl) ?_
  refine Ev.pos (by decide) (Ev.bind (Predict_is _ _ _ _ (by omega)) (Ev.bind (Predict_is _ _ _ _ (by omega)) (Ev.pos (h 1) ?_)))
  rw [w1]
  refine Ev.step (fun n => by simp only [flagstonelaw39_ScorePast.l0]; rfl) ?_
  refine Ev.pos (by decide) (Ev.bind (Predict_is _ _ _ _ (by omega)) (Ev.bind (Predict_is _ _ _ _ (by omega)) (Ev.pos (h 2) ?_)))
  rw [w2]
  refine Ev.step (fun n => by simp only [flagstonelaw39_ScorePast.l0]; rfl) ?_
  exact Ev.neg (by decide) (Ev.now _)
theorem past_j1 {v : Int} {S : List S34} {k : Nat} (hS : S.length ≤ 40) (hk : k < S.length) : Ev (fun n => flagstonelaw39_ScorePast.j1 n v S (k : Int) false) true := by
  refine Ev.step (fun n => by simp only [flagstonelaw39_ScorePast.j1]; rfl) ?_
  refine Ev.neg (by decide) (Ev.bind (Ev.now _) (Ev.pos (by simp; omega) (Ev.bind (Ev.now _) (Ev.pos (by omega) (Ev.pos (by simp; omega) (Ev.bind (Ev.now _) ?_))))))
  rw [List.nil_append, Int.toNat_natCast]
  refine past_l0 (by omega) (by simp; omega) (fun arm => ?_)
  have hl : k < (S.set k (⟨(⟨(rd_T34 S k).f0.f0, (rd_T34 S k).f0.f1, (rd_T34 S k).f0.f2, (rd_T34 S k).f0.f3, (rd_T34 S k).f0.f4, (rd_T34 S k).f0.f5⟩ : S32), Int.tmod (wrap64 v) 91, (rd_T34 S k).f2, (rd_T34 S k).f3, (rd_T34 S k).f4⟩ : S34)).length := by simp; exact hk
  refine predict_prefix ?_ hk (by simp; exact hk) ?_ arm 90
  · rw [List.take_set_of_le (by omega), List.take_set_of_le (by omega)]
  · rw [rd_T (xs := List.set _ _ _) (by simp; exact hk), List.getElem_set_self, rd_T hl, List.getElem_set_self]
theorem ScorePast : flagstonelaw39_ScorePast.Pure := by
  intro l0 l1 a2 a3 a4 a5 a6 a7 m0 y0 w0 m1 y1 w1 w2 w3 w4 w5 w6 w7
  apply Ev.rounds
  unfold flagstonelaw39_ScorePast.f
  have stop : ∀ b, b = true → Ev (fun k => flagstonelaw39_ScorePast.j0 k l0 l1 a2 a3 a4 a5 a6 a7 b) true := fun b hb => by
    subst hb
    exact Ev.step (f := fun _ => some true) (fun k => by simp only [flagstonelaw39_ScorePast.j0]; rw [if_pos trivial]) (Ev.now _)
  refine Ev.bind awake39_is (Ev.pos rfl (Ev.both (fun _ => stop _ rfl) (fun hl => ?_)))
  by_cases hl1 : (l1.length : Int) > 200
  · exact stop _ (decide_eq_true hl1)
  · rw [decide_eq_false hl1]
    obtain ⟨S, hS, hS40, hin⟩ := samples_are l0 (u8s w0) (by omega) 90 (by decide) (by decide)
    obtain ⟨M, hM, hM40, hinM⟩ := samples_are l1 (u8s w1) (by omega) 90 (by decide) (by decide)
    obtain ⟨W, hW, hWb, hW2⟩ := weights_are (u8_of w4) (u8_of w5) (u8_of w6) (u8_of w7)
    obtain ⟨c0, c1⟩ := u8_of w2
    refine Ev.step (fun k => by simp only [flagstonelaw39_ScorePast.j0]; rfl) ?_
    refine Ev.neg (by decide) (Ev.bind hS (Ev.both (fun _ => Ev.now _) (fun hne => Ev.bind (Ev.now _) ?_)))
    have hmod : Int.tmod (wrap64 a2) (S.length : Int) = ((a2.toNat % S.length : Nat) : Int) := by
      rw [w64_id (by omega) (by omega), Int.tmod_eq_emod_of_nonneg c0]
      obtain ⟨n, rfl⟩ := Int.eq_ofNat_of_zero_le c0
      rw [Int.toNat_natCast]
      exact (Int.natCast_emod n S.length).symm
    rw [hmod]
    have hk : a2.toNat % S.length < S.length := Nat.mod_lt _ (by omega)
    generalize a2.toNat % S.length = k at *
    have hw : wrap64 ((k : Int) + 1) = ((k + 1 : Nat) : Int) := by rw [w64_id (by omega) (by omega)]; omega
    rw [hw, Int.toNat_natCast]
    have ho : ([] ++ S.take (k + 1) ++ M).length = k + 1 + M.length := by simp; omega
    have hinO : ∀ x ∈ [] ++ S.take (k + 1) ++ M, SampleIn 90 x := fun x hx => by
      rw [List.nil_append] at hx
      rcases List.mem_append.mp hx with hx | hx
      · exact hin x (List.mem_of_mem_take hx)
      · exact hinM x hx
    have e1 := all_length (adj := true) hWb (by decide) (by decide) hin S.length 0 (by omega)
    have e2 := all_length (adj := true) hWb (by decide) (by decide) hinO (k + 1 + M.length) 0 (by omega)
    rw [List.drop_zero] at e1 e2
    have e3 := all_prefix (adj := true) (s := S) (s' := [] ++ S.take (k + 1) ++ M) (k := k + 1) hWb (by decide) (by decide) hin (by omega) (by omega) (by
      rw [List.nil_append, List.take_append_of_le_length (by rw [List.length_take]; omega), List.take_take, Nat.min_self]) (k + 1) 0 (by omega)
    rw [List.drop_zero, List.drop_zero] at e3
    refine Ev.pos (by omega) (Ev.pos (by omega) (Ev.bind (Ev.now _) (Ev.pos (by simp; omega) (Ev.bind (Ev.now _) (Ev.bind hM (Ev.pos (by simp; omega) (Ev.bind (Ev.now _) ?_)))))))
    rw [hW]
    refine Ev.bind (Ev.now _) (Ev.bind (All_is _ _ _ _ (by omega) (by omega)) (Ev.bind (All_is _ _ _ _ (by omega) (by omega)) (Ev.pos (by omega) (Ev.pos (by omega) (Ev.pos (by omega) (Ev.pos (by omega) ?_))))))
    rw [← e3]
    refine Ev.bind (same39 _ (by rw [List.length_take]; omega)) ?_
    exact past_j1 hS40 hk
end Go.Proofs.Ytdmhdbebjjhopaa.Pure
