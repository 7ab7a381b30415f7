/- A score depends on its sample and on those before it alone; equal lists are told to be equal. -/
import Derived.Test.YtdmhdbebjjhopaaA3
import Derived.Test.YtdmhdbebjjhopaaA9
namespace Go.Proofs.Ytdmhdbebjjhopaa.PA
open Go Go.RowKit Go.Proofs.YtdmhdbebjjhopaaW.PrintWords Go.Proofs.YtdmhdbebjjhopaaW.PrintLast Go.Proofs.YtdmhdbebjjhopaaW.PrintMore Go.Proofs.Ytdmhdbebjjhopaa.M
set_option linter.unusedVariables false
set_option linter.unusedSimpArgs false

theorem at_take {s s' : List S34} {j : Nat} (h : s.take (j + 1) = s'.take (j + 1)) (hj : j < s.length) (hj' : j < s'.length) : s[j] = s'[j] := by
  have := congrArg (fun l => l[j]?) h
  simp only [List.getElem?_take] at this
  rw [if_pos (by omega), if_pos (by omega), List.getElem?_eq_getElem hj, List.getElem?_eq_getElem hj'] at this
  exact Option.some.inj this
theorem take_less {s s' : List S34} {j : Nat} (h : s.take (j + 1) = s'.take (j + 1)) : s.take j = s'.take j := by
  have := congrArg (List.take j) h
  rw [List.take_take, List.take_take, Nat.min_eq_left (by omega)] at this
  exact this
theorem predict_prefix {s s' : List S34} {j : Nat} (h : s.take j = s'.take j) (hj : j < s.length) (hj' : j < s'.length) (hx : (rd_T34 s j).f3 = (rd_T34 s' j).f3) (arm cap : Int) : predictS s j arm cap = predictS s' j arm cap := by
  unfold predictS
  rw [if_pos (by omega), if_pos (by omega), hx, Int.toNat_natCast]
  unfold predS
  rw [h]
theorem of_prefix {s s' : List S34} {j : Nat} (h : s.take (j + 1) = s'.take (j + 1)) (hj : j < s.length) (hj' : j < s'.length) (c t cap : Int) (adj : Bool) : ofS s j c t cap adj = ofS s' j c t cap adj := by
  have hx : rd_T34 s j = rd_T34 s' j := by rw [rd_T hj, rd_T hj', at_take h hj hj']
  have hp := fun arm => predict_prefix (take_less h) hj hj' (by rw [hx]) arm cap
  unfold ofS okS
  rw [hx, hp 1, hp 2, Int.toNat_natCast, h, show decide (0 ≤ (j : Int) ∧ (j : Int) < s.length ∧ 1 ≤ c ∧ c ≤ 10000 ∧ 1 ≤ t ∧ t ≤ 10000 ∧ 1 ≤ cap ∧ cap ≤ 1048576) = decide (0 ≤ (j : Int) ∧ (j : Int) < s'.length ∧ 1 ≤ c ∧ c ≤ 10000 ∧ 1 ≤ t ∧ t ≤ 10000 ∧ 1 ≤ cap ∧ cap ≤ 1048576) from by
    congr 1; apply propext; omega]
theorem one_prefix {s s' : List S34} {j : Nat} (h : s.take (j + 1) = s'.take (j + 1)) (hj : j < s.length) (hj' : j < s'.length) (w : List S42) (cap : Int) (adj : Bool) : oneS s w cap adj j s[j].f0.f5 = oneS s' w cap adj j s'[j].f0.f5 := by
  unfold oneS
  rw [at_take h hj hj']
  cases w.find? (fun y => y.f0 = s'[j].f0.f5) with
  | none => rfl
  | some y => simp only; rw [of_prefix h hj hj']
/-- Weights for both versions. -/
def BothW (w : List S42) : Prop := ∀ v : Int, v = 1 ∨ v = 2 → ∃ y, w.find? (fun y => y.f0 = v) = some y ∧ 1 ≤ y.f1 ∧ y.f1 ≤ 10000 ∧ 1 ≤ y.f2 ∧ y.f2 ≤ 10000
theorem one_some {s : List S34} {w : List S42} {cap : Int} {adj : Bool} (hw : BothW w) (h0 : 1 ≤ cap) (h1 : cap ≤ 1048576) (hs : ∀ x ∈ s, SampleIn cap x) {j : Nat} (hj : j < s.length) : ∃ z, oneS s w cap adj j s[j].f0.f5 = some z := by
  have hx := hs _ (List.getElem_mem hj)
  obtain ⟨y, hy, y1, y2, y3, y4⟩ := hw _ hx.2.1
  have hk : okS s (j : Int) y.f1 y.f2 cap = true := by
    unfold okS
    rw [rd_T hj, decide_eq_true (by omega), decide_eq_true hx.1]
    simp only [Bool.true_and, Bool.and_true, List.all_eq_true, decide_eq_true_eq]
    intro x hx
    have := hs x (List.mem_of_mem_take hx)
    exact ⟨this.2.2.1, this.2.2.2.1⟩
  unfold oneS
  rw [hy]
  simp only
  rw [of_flag, if_pos hk]
  exact ⟨_, rfl⟩
theorem all_length {s : List S34} {w : List S42} {cap : Int} {adj : Bool} (hw : BothW w) (h0 : 1 ≤ cap) (h1 : cap ≤ 1048576) (hs : ∀ x ∈ s, SampleIn cap x) : ∀ m i : Nat, i + m = s.length → (allS s w cap adj i (s.drop i)).length = m
  | 0, i, h => by rw [List.drop_of_length_le (by omega)]; rfl
  | m + 1, i, h => by
    have hi : i < s.length := by omega
    rw [List.drop_eq_getElem_cons hi]
    simp only [allS]
    obtain ⟨z, hz⟩ := one_some (adj := adj) hw h0 h1 hs hi
    rw [hz, List.length_append, all_length hw h0 h1 hs m (i + 1) (by omega), Option.toList_some, List.length_singleton]
    omega
theorem all_prefix {s s' : List S34} {w : List S42} {cap : Int} {adj : Bool} {k : Nat} (hw : BothW w) (h0 : 1 ≤ cap) (h1 : cap ≤ 1048576) (hs : ∀ x ∈ s, SampleIn cap x) (hk : k ≤ s.length) (hk' : k ≤ s'.length) (h : s.take k = s'.take k) :
    ∀ m i : Nat, i + m = k → (allS s w cap adj i (s.drop i)).take m = (allS s' w cap adj i (s'.drop i)).take m
  | 0, i, _ => by rw [List.take_zero, List.take_zero]
  | m + 1, i, hi => by
    have a1 : i < s.length := by omega
    have a2 : i < s'.length := by omega
    have hp : s.take (i + 1) = s'.take (i + 1) := by
      have := congrArg (List.take (i + 1)) h
      rw [List.take_take, List.take_take, Nat.min_eq_left (by omega)] at this
      exact this
    rw [List.drop_eq_getElem_cons a1, List.drop_eq_getElem_cons a2]
    simp only [allS]
    obtain ⟨z, hz⟩ := one_some (adj := adj) hw h0 h1 hs a1
    rw [← one_prefix hp a1 a2, hz, Option.toList_some, List.singleton_append, List.singleton_append, List.take_succ_cons, List.take_succ_cons, all_prefix hw h0 h1 hs hk hk' h m (i + 1) (by omega)]
theorem same39 (xs : List S37) (hm : xs.length ≤ 9223372036854775807) : Ev (fun k => flagstoneref39_Same.f k xs xs) true := by
  unfold flagstoneref39_Same.f
  refine Ev.pos rfl ?_
  have go : ∀ n i, xs.length - i = n → i ≤ xs.length → Ev (fun k => flagstoneref39_Same.l0 k xs xs (i : Int)) true := by
    intro n
    induction n with
    | zero =>
      intro i hn hi
      refine Ev.step (f := fun _ => some true) (fun k => ?_) (Ev.now _)
      simp only [flagstoneref39_Same.l0]
      rw [if_neg (by omega)]
    | succ n ih =>
      intro i hn hi
      have hw : wrap64 ((i : Int) + 1) = ((i + 1 : Nat) : Int) := by rw [w64_id (by omega) (by omega)]; omega
      refine Ev.step (fun k => by simp only [flagstoneref39_Same.l0]; rfl) ?_
      rw [hw]
      exact Ev.pos (by omega) (Ev.pos (by omega) (Ev.pos (by omega) (Ev.neg (by simp) (ih (i + 1) (by omega) (by omega)))))
  exact go xs.length 0 (by omega) (by omega)
theorem weights_are {a b c d : Int} (ha : 0 ≤ a ∧ a ≤ 255) (hb : 0 ≤ b ∧ b ≤ 255) (hc : 0 ≤ c ∧ c ≤ 255) (hd : 0 ≤ d ∧ d ≤ 255) : ∃ w : List S42, flagstonedata_Weights.f a b c d = some w ∧ BothW w ∧ w.length = 2 := by
  have e : ∀ v : Int, 0 ≤ v ∧ v ≤ 255 → wrap64 (1 + Int.tmod (wrap64 v) 20) = 1 + v % 20 := fun v h => by rw [w64_id (x := v) (by omega) (by omega), Int.tmod_eq_emod_of_nonneg h.1, w64_id (by omega) (by omega)]
  refine ⟨_, rfl, ?_, rfl⟩
  rw [e a ha, e b hb, e c hc, e d hd]
  intro v hv
  rcases hv with rfl | rfl
  · exact ⟨_, rfl, by simp only; omega, by simp only; omega, by simp only; omega, by simp only; omega⟩
  · exact ⟨_, rfl, by simp only; omega, by simp only; omega, by simp only; omega, by simp only; omega⟩
end Go.Proofs.Ytdmhdbebjjhopaa.PA
