/- What All of the program answers: a score for every sample whose version has weights. -/
import Derived.Test.YtdmhdbebjjhopaaPA9
import Derived.Test.YtdmhdbebjjhopaaA8
namespace Go.Proofs.Ytdmhdbebjjhopaa.PA
open Go Go.RowKit Go.Proofs.YtdmhdbebjjhopaaW.PrintWords Go.Proofs.YtdmhdbebjjhopaaW.PrintLast Go.Proofs.YtdmhdbebjjhopaaW.PrintMore Go.Proofs.Ytdmhdbebjjhopaa.M
set_option linter.unusedVariables false
set_option linter.unusedSimpArgs false

theorem rd_W {xs : List S42} {i : Nat} (h : i < xs.length) : rd_T42 xs (i : Int) = xs[i] := by
  unfold rd_T42
  simp [h]
theorem rd_Sc {xs : List S37} {i : Nat} (h : i < xs.length) : rd_T37 xs (i : Int) = xs[i] := by
  unfold rd_T37
  simp [h]
/-- The score of sample i, if there is one. -/
def oneS (s : List S34) (w : List S42) (cap : Int) (adj : Bool) (i : Int) (v : Int) : Option S37 :=
  match w.find? (fun y => y.f0 = v) with
  | none => none
  | some y => if (ofS s i y.f1 y.f2 cap adj).2.2.2 = true then some ⟨(ofS s i y.f1 y.f2 cap adj).1, (ofS s i y.f1 y.f2 cap adj).2.1, (ofS s i y.f1 y.f2 cap adj).2.2.1⟩ else none
/-- The scores of the samples from i on. -/
def allS (s : List S34) (w : List S42) (cap : Int) (adj : Bool) : Nat → List S34 → List S37
  | _, [] => []
  | i, x :: l => (oneS s w cap adj (i : Int) x.f0.f5).toList ++ allS s w cap adj (i + 1) l
theorem allS_length (s : List S34) (w : List S42) (cap : Int) (adj : Bool) : ∀ (l : List S34) (i : Nat), (allS s w cap adj i l).length ≤ l.length
  | [], _ => by simp [allS]
  | x :: l, i => by
    have := allS_length s w cap adj l (i + 1)
    simp only [allS, List.length_append, List.length_cons]
    have h2 : (oneS s w cap adj (i : Int) x.f0.f5).toList.length ≤ 1 := by cases oneS s w cap adj (i : Int) x.f0.f5 <;> simp
    omega
theorem all_l1 {s : List S34} {w : List S42} {cap : Int} {adj : Bool} {out : List S37} {i : Nat} {v : Int} {R : List S37} (hm : s.length ≤ 4611686018427387904) (hw : w.length ≤ 4611686018427387904) (ho : out.length < 5864062014805)
    (h : Ev (fun k => score_All.l0 k s w cap adj (out ++ (oneS s w cap adj (i : Int) v).toList) s (s.length : Int) (wrap64 ((i : Int) + 1))) R) :
    ∀ m j : Nat, w.length - j = m → j ≤ w.length → (w.drop j).find? (fun y => y.f0 = v) = w.find? (fun y => y.f0 = v) → ∀ z0 z1 z2 z3 z4 z6 z7 z8 z9,
    Ev (fun k => score_All.l1 k s w cap adj out (i : Int) s (s.length : Int) (i : Int) w (w.length : Int) (j : Int) z0 z1 z2 z3 z4 v z6 z7 z8 z9) R := by
  intro m
  induction m with
  | zero =>
    intro j hmt hj hf z0 z1 z2 z3 z4 z6 z7 z8 z9
    rw [List.drop_of_length_le (by omega)] at hf
    refine Ev.step (fun k => by simp only [score_All.l1]; rfl) ?_
    have e : oneS s w cap adj (i : Int) v = none := by unfold oneS; rw [← hf]; rfl
    rw [e] at h
    simp only [Option.toList_none, List.append_nil] at h
    exact Ev.neg (by omega) h
  | succ m ih =>
    intro j hmt hj hf z0 z1 z2 z3 z4 z6 z7 z8 z9
    have hlt : j < w.length := by omega
    have hww : wrap64 ((j : Int) + 1) = ((j + 1 : Nat) : Int) := by rw [w64_id (by omega) (by omega)]; omega
    have rt := rd_W hlt
    rw [List.drop_eq_getElem_cons hlt, List.find?_cons] at hf
    generalize w[j] = y at rt hf
    refine Ev.step (fun k => by simp only [score_All.l1]; rfl) ?_
    rw [rt, hww]
    refine Ev.pos (by omega) (Ev.pos (by omega) (Ev.pos (by omega) (Ev.both (fun ha => ?_) (fun ha => ?_))))
    · rw [decide_eq_true ha] at hf
      refine Ev.bind (Of_is _ _ _ _ _ _ _ hm) ?_
      refine Ev.both (fun hk => ?_) (fun hk => ?_)
      · have e : oneS s w cap adj (i : Int) v = some ⟨(ofS s i y.f1 y.f2 cap adj).1, (ofS s i y.f1 y.f2 cap adj).2.1, (ofS s i y.f1 y.f2 cap adj).2.2.1⟩ := by
          unfold oneS; rw [← hf]; simp only; rw [if_pos hk]
        rw [e] at h
        exact Ev.pos ho h
      · have e : oneS s w cap adj (i : Int) v = none := by
          unfold oneS; rw [← hf]; simp only; rw [if_neg hk]
        rw [e] at h
        simp only [Option.toList_none, List.append_nil] at h
        exact h
    · rw [decide_eq_false ha] at hf
      exact ih (j + 1) (by omega) (by omega) hf _ _ _ _ _ _ _ _ _
theorem All_is (s : List S34) (w : List S42) (cap : Int) (adj : Bool) (hm : s.length ≤ 1000000000) (hw : w.length ≤ 4611686018427387904) : Ev (fun k => score_All.f k s w cap adj) (allS s w cap adj 0 s) := by
  unfold score_All.f
  have go : ∀ m i : Nat, s.length - i = m → i ≤ s.length → ∀ out : List S37, out.length ≤ i → Ev (fun k => score_All.l0 k s w cap adj out s (s.length : Int) (i : Int)) (out ++ allS s w cap adj i (s.drop i)) := by
    intro m
    induction m with
    | zero =>
      intro i hmt hi out ho
      rw [List.drop_of_length_le (by omega)]
      simp only [allS, List.append_nil]
      refine Ev.step (fun k => by simp only [score_All.l0]; rfl) ?_
      exact Ev.neg (by omega) (Ev.now _)
    | succ m ih =>
      intro i hmt hi out ho
      have hlt : i < s.length := by omega
      have hwi : wrap64 ((i : Int) + 1) = ((i + 1 : Nat) : Int) := by rw [w64_id (by omega) (by omega)]; omega
      have rt := rd_T hlt
      rw [List.drop_eq_getElem_cons hlt]
      generalize s[i] = x at rt
      simp only [allS]
      rw [← List.append_assoc]
      have h2 : (oneS s w cap adj (i : Int) x.f0.f5).toList.length ≤ 1 := by cases oneS s w cap adj (i : Int) x.f0.f5 <;> simp
      have next := ih (i + 1) (by omega) (by omega) (out ++ (oneS s w cap adj (i : Int) x.f0.f5).toList) (by rw [List.length_append]; omega)
      rw [← hwi] at next
      refine Ev.step (fun k => by simp only [score_All.l0]; rfl) ?_
      rw [rt]
      exact Ev.pos (by omega) (Ev.pos (by omega) (Ev.pos (by omega) (all_l1 (by omega) hw (by omega) next _ 0 rfl (by omega) rfl _ _ _ _ _ _ _ _ _)))
  have h := go s.length 0 (by omega) (by omega) [] (by simp)
  simpa using h
end Go.Proofs.Ytdmhdbebjjhopaa.PA
