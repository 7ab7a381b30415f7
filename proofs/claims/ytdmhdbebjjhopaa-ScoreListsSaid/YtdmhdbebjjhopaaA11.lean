/- What All of the document's text answers: the same as All of the program. -/
import Derived.Test.YtdmhdbebjjhopaaPA11
import Derived.Test.YtdmhdbebjjhopaaA5
import Derived.Test.YtdmhdbebjjhopaaA9
namespace Go.Proofs.Ytdmhdbebjjhopaa.PA
open Go Go.RowKit Go.Proofs.YtdmhdbebjjhopaaW.PrintWords Go.Proofs.YtdmhdbebjjhopaaW.PrintLast Go.Proofs.YtdmhdbebjjhopaaW.PrintMore Go.Proofs.Ytdmhdbebjjhopaa.M
set_option linter.unusedVariables false
set_option linter.unusedSimpArgs false

/-- The weights of a version. -/
def wS (w : List S42) (v : Int) : Int × Int × Int × Bool :=
  match w.find? (fun y => y.f0 = v) with
  | none => (0, 0, 0, false)
  | some y => (y.f0, y.f1, y.f2, true)
theorem refW_l0 {w : List S42} {v : Int} (hw : w.length ≤ 4611686018427387904) : ∀ m j : Nat, w.length - j = m → j ≤ w.length → Ev (fun k => flagstoneref39_Weights.l0 k w v (j : Int)) (wS (w.drop j) v) := by
  intro m
  induction m with
  | zero =>
    intro j hm hj
    rw [List.drop_of_length_le (by omega)]
    refine Ev.step (fun k => by simp only [flagstoneref39_Weights.l0]; rfl) ?_
    exact Ev.neg (by omega) (Ev.now _)
  | succ m ih =>
    intro j hm hj
    have hlt : j < w.length := by omega
    have hww : wrap64 ((j : Int) + 1) = ((j + 1 : Nat) : Int) := by rw [w64_id (by omega) (by omega)]; omega
    have rt := rd_W hlt
    have e : wS (w.drop j) v = if w[j].f0 = v then (w[j].f0, w[j].f1, w[j].f2, true) else wS (w.drop (j + 1)) v := by
      unfold wS
      rw [List.drop_eq_getElem_cons hlt, List.find?_cons]
      by_cases h : w[j].f0 = v
      · rw [if_pos h, decide_eq_true h]
      · rw [if_neg h, decide_eq_false h]
    rw [e]
    refine Ev.step (fun k => by simp only [flagstoneref39_Weights.l0]; rfl) ?_
    rw [rt, hww]
    refine Ev.pos (by omega) (Ev.pos (by omega) (Ev.both (fun ha => ?_) (fun ha => ?_)))
    · rw [if_pos ha]; exact Ev.now _
    · rw [if_neg ha]; exact ih (j + 1) (by omega) (by omega)
theorem refW_is (w : List S42) (v : Int) (hw : w.length ≤ 4611686018427387904) : Ev (fun k => flagstoneref39_Weights.f k w v) (wS w v) := by
  have h := refW_l0 (v := v) hw w.length 0 (by omega) (by omega)
  simpa [flagstoneref39_Weights.f] using h
theorem refAll_is (s : List S34) (w : List S42) (cap : Int) (adj : Bool) (hm : s.length ≤ 1000000000) (hw : w.length ≤ 4611686018427387904) (hc : ∀ x ∈ s, x.f3 ≤ 9223372036854775807) : Ev (fun k => flagstoneref39_All.f k s w cap adj) (allS s w cap adj 0 s) := by
  unfold flagstoneref39_All.f
  have go : ∀ m i : Nat, s.length - i = m → i ≤ s.length → ∀ out : List S37, out.length ≤ i → Ev (fun k => flagstoneref39_All.l0 k s w cap adj out (i : Int)) (out ++ allS s w cap adj i (s.drop i)) := by
    intro m
    induction m with
    | zero =>
      intro i hmt hi out ho
      rw [List.drop_of_length_le (by omega)]
      simp only [allS, List.append_nil]
      refine Ev.step (fun k => by simp only [flagstoneref39_All.l0]; rfl) ?_
      exact Ev.neg (by omega) (Ev.now _)
    | succ m ih =>
      intro i hmt hi out ho
      have hlt : i < s.length := by omega
      have hwi : wrap64 ((i : Int) + 1) = ((i + 1 : Nat) : Int) := by rw [w64_id (by omega) (by omega)]; omega
      have rt := rd_T hlt
      rw [List.drop_eq_getElem_cons hlt]
      generalize s[i] = x at rt
      simp only [allS]
      rw [← List.append_assoc]
      have h2 : (oneS s w cap adj (i : Int) x.f0.f5).toList.length ≤ 1 := by cases oneS s w cap adj (i : Int) x.f0.f5 <;> simp
      have next := ih (i + 1) (by omega) (by omega) (out ++ (oneS s w cap adj (i : Int) x.f0.f5).toList) (by rw [List.length_append]; omega)
      refine Ev.step (fun k => by simp only [flagstoneref39_All.l0]; rfl) ?_
      rw [rt, hwi]
      refine Ev.pos (by omega) (Ev.pos (by omega) (Ev.bind (refW_is w x.f0.f5 hw) ?_))
      unfold wS
      unfold oneS at next ⊢
      cases hf : w.find? (fun y => y.f0 = x.f0.f5) with
      | none =>
        rw [hf] at next
        simp only [Option.toList_none, List.append_nil] at next ⊢
        exact Ev.neg (by decide) next
      | some y =>
        rw [hf] at next
        simp only at next ⊢
        refine Ev.pos trivial (Ev.bind (refOf_is s (i : Int) y.f0 y.f1 y.f2 cap adj (by omega) hc) ?_)
        refine Ev.both (fun hk => ?_) (fun hk => ?_)
        · rw [if_pos hk] at next ⊢
          exact Ev.pos (by omega) next
        · rw [if_neg hk] at next ⊢
          simp only [Option.toList_none, List.append_nil] at next ⊢
          exact next
  have h := go s.length 0 (by omega) (by omega) [] (by simp)
  simpa using h
end Go.Proofs.Ytdmhdbebjjhopaa.PA
