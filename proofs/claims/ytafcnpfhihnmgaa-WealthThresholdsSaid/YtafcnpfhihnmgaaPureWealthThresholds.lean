/- Threshold and First of the program equal those of the document's text, for all arguments; an element of a path is found. No condition beyond the statement's own guard (a path of at most 100 elements). -/
import Derived.Test.YtafcnpfhihnmgaaPA7
import Derived.Test.YtafcnpfhihnmgaaM3
namespace Go.Proofs.Ytafcnpfhihnmgaa.Pure
open Go Go.RowKit Go.Proofs.Ytafcnpfhihnmgaa.PA Go.Proofs.YtafcnpfhihnmgaaW.PrintWords Go.Proofs.YtafcnpfhihnmgaaW.PrintLast Go.Proofs.YtafcnpfhihnmgaaW.PrintMore Go.Proofs.Ytafcnpfhihnmgaa.M

theorem WealthThresholds : flagstonelaw40_WealthThresholds.Pure := by
  intro a0 a1 a2 a3 l4 a5 w0 w1 w2 w3 hm y hw w5
  apply Ev.rounds
  unfold flagstonelaw40_WealthThresholds.f
  refine Ev.bind awake_is (Ev.pos rfl (Ev.both (fun _ => Ev.now _) (fun hl => ?_)))
  have hmx : l4.length ≤ 9223372036854775807 := by unfold maxLen at hm; omega
  refine Ev.bind (wealth_Threshold_is _ _) (Ev.bind (flagstoneref40_Threshold_is _ _) (Ev.pos rfl ?_))
  refine Ev.bind (wealth_Threshold_is _ _) (Ev.bind (flagstoneref40_Threshold_is _ _) (Ev.pos rfl ?_))
  refine Ev.bind (wealth_First_is l4 a5 hmx) (Ev.bind (flagstoneref40_First_is l4 a5 hmx) ?_)
  simp only [bne_self_eq_false]
  have last : ∀ t : Int, (l4.length = 0 ∨ ∃ x, x ∈ l4 ∧ x ≥ t) → Ev (fun k => flagstonelaw40_WealthThresholds.j1 k l4 t) true := by
    intro t ht
    refine Ev.step (f := fun k => (wealth_First.f k l4 t).bind fun t187 => ((flagstoneref40_First.f k l4 t).bind fun t188 => (if t187 = t188 then (if (l4.length : Int) = 0 then (some true) else (some (decide (t187 > 0)))) else (some false)))) (fun k => by simp only [flagstonelaw40_WealthThresholds.j1]) ?_
    refine Ev.bind (wealth_First_is l4 t hmx) (Ev.bind (flagstoneref40_First_is l4 t hmx) (Ev.pos rfl ?_))
    refine Ev.both (fun _ => Ev.now _) (fun h0 => ?_)
    rcases ht with ht | ⟨x, h1, h2⟩
    · exact absurd (by omega) h0
    · rw [decide_eq_true (show firstS t 0 l4 > 0 from first_pos t l4 0 x h1 h2)]
      exact Ev.now _
  refine Ev.step (f := fun k => if (l4.length : Int) > 0 then (if (l4.length : Int) = 0 then (none) else (if 0 ≤ (Int.tmod (wrap64 (IntKind.u16.wrap (a2))) (l4.length : Int)) then (if (Int.tmod (wrap64 (IntKind.u16.wrap (a2))) (l4.length : Int)) < (l4.length : Int) then (flagstonelaw40_WealthThresholds.j1 k l4 (rd l4 (Int.tmod (wrap64 (IntKind.u16.wrap (a2))) (l4.length : Int)))) else (none)) else (none))) else (flagstonelaw40_WealthThresholds.j1 k l4 a5)) (fun k => by simp only [flagstonelaw40_WealthThresholds.j0]; rw [if_neg (by decide)]) ?_
  refine Ev.both (fun hp => Ev.neg (by omega) ?_) (fun hp => last _ (.inl (by omega)))
  have hu : 0 ≤ wrap64 (IntKind.u16.wrap a2) := by
    have e : IntKind.u16.wrap a2 = a2 % 65536 := by simp [IntKind.wrap, IntKind.bits, IntKind.signed]
    rw [e, w64_id (by omega) (by omega)]; omega
  rw [Int.tmod_eq_emod_of_nonneg hu]
  have i0 := Int.emod_nonneg (wrap64 (IntKind.u16.wrap a2)) (show (l4.length : Int) ≠ 0 by omega)
  have i1 := Int.emod_lt_of_pos (wrap64 (IntKind.u16.wrap a2)) (show 0 < (l4.length : Int) by omega)
  generalize wrap64 (IntKind.u16.wrap a2) % (l4.length : Int) = i at *
  refine Ev.pos i0 (Ev.pos i1 (last _ (.inr ?_)))
  obtain ⟨j, rfl⟩ := Int.eq_ofNat_of_zero_le i0
  have hj : j < l4.length := by omega
  rw [rd_at hj]
  exact ⟨_, List.getElem_mem hj, Int.le_refl _⟩
end Go.Proofs.Ytafcnpfhihnmgaa.Pure
