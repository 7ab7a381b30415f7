/- Without predictions the scores of all samples add up to what the Horvitz-Thompson estimate says. No condition. -/
import Derived.Test.YtdmhdbebjjhopaaPA15
import Derived.Test.YtdmhdbebjjhopaaA3
import Derived.Test.YtdmhdbebjjhopaaA7
import Derived.Test.YtdmhdbebjjhopaaA9
namespace Go.Proofs.Ytdmhdbebjjhopaa.Pure
open Go Go.RowKit Go.Proofs.Ytdmhdbebjjhopaa.PA Go.Proofs.YtdmhdbebjjhopaaW.PrintWords Go.Proofs.YtdmhdbebjjhopaaW.PrintLast Go.Proofs.YtdmhdbebjjhopaaW.PrintMore Go.Proofs.Ytdmhdbebjjhopaa.M
set_option linter.unusedVariables false
set_option linter.unusedSimpArgs false

/-- What a sample adds. -/
def addS (c t : Int) (x : S34) : Int := if x.f0.f4 = 1 then -((c + t) * t * x.f1) else (c + t) * c * x.f1
theorem one_sums {S : List S34} {c t : Int} {i : Nat} (hS : S.length ≤ 40) (hin : ∀ x ∈ S, SampleIn 100 x) (hi : i < S.length) (h0 : 1 ≤ c) (h1 : c ≤ 50) (h2 : 1 ≤ t) (h3 : t ≤ 50) :
    ∃ r, oneS S [(⟨1, c, t⟩ : S42), (⟨2, c, t⟩ : S42)] 100 false (i : Int) S[i].f0.f5 = some (⟨addS c t S[i], c * t * 100, r⟩ : S37) := by
  have hx := hin _ (List.getElem_mem hi)
  have hk : okS S (i : Int) c t 100 = true := by
    unfold okS
    rw [rd_T hi, decide_eq_true (by omega), decide_eq_true hx.1]
    simp only [Bool.true_and, Bool.and_true, List.all_eq_true, decide_eq_true_eq]
    intro x hx
    have := hin x (List.mem_of_mem_take hx)
    exact ⟨this.2.2.1, this.2.2.2.1⟩
  obtain ⟨p1, p2, _, _, _, _, e1, e2, e, _⟩ := of_good (adj := false) (by omega) hk
  rw [if_neg (by decide)] at e1 e2
  subst e1 e2
  have f : ([(⟨1, c, t⟩ : S42), (⟨2, c, t⟩ : S42)]).find? (fun y => y.f0 = S[i].f0.f5) = some ⟨S[i].f0.f5, c, t⟩ := by
    rcases hx.2.1 with h | h <;> rw [h] <;> rfl
  refine ⟨100 * (2 * (c * t) + (c + t) * (mx c t)), ?_⟩
  unfold oneS
  rw [f]
  simp only
  rw [e]
  simp only [if_true]
  rw [rd_T hi]
  congr 2
  unfold addS
  rcases hx.1 with h | h <;> rw [h]
  · simp
  · simp
theorem sums_all {S : List S34} {c t : Int} (hS : S.length ≤ 40) (hin : ∀ x ∈ S, SampleIn 100 x) (h0 : 1 ≤ c) (h1 : c ≤ 50) (h2 : 1 ≤ t) (h3 : t ≤ 50) : ∀ m i : Nat, S.length - i = m → i ≤ S.length →
    (allS S [(⟨1, c, t⟩ : S42), (⟨2, c, t⟩ : S42)] 100 false i (S.drop i)).length = S.length - i ∧
    ∀ j : Nat, j < S.length - i → ∃ x, S[i + j]? = some x ∧ (rd_T37 (allS S [(⟨1, c, t⟩ : S42), (⟨2, c, t⟩ : S42)] 100 false i (S.drop i)) (j : Int)).f0 = addS c t x ∧
      (rd_T37 (allS S [(⟨1, c, t⟩ : S42), (⟨2, c, t⟩ : S42)] 100 false i (S.drop i)) (j : Int)).f1 = c * t * 100 := by
  intro m
  induction m with
  | zero =>
    intro i hm hi
    rw [List.drop_of_length_le (by omega)]
    exact ⟨by simp [allS]; omega, fun j hj => by omega⟩
  | succ m ih =>
    intro i hm hi
    have hl : i < S.length := by omega
    rw [List.drop_eq_getElem_cons hl]
    simp only [allS]
    obtain ⟨r, hr⟩ := one_sums hS hin hl h0 h1 h2 h3
    rw [hr]
    obtain ⟨g1, g2⟩ := ih (i + 1) (by omega) (by omega)
    simp only [Option.toList_some, List.singleton_append, List.length_cons, g1]
    refine ⟨by omega, fun j hj => ?_⟩
    cases j with
    | zero => exact ⟨S[i], by simp [hl], rfl, rfl⟩
    | succ j =>
      obtain ⟨x, k1, k2, k3⟩ := g2 j (by omega)
      refine ⟨x, by rw [← k1]; congr 1; omega, ?_, ?_⟩
      · rw [← k2]; simp [rd_T37]
      · rw [← k3]; simp [rd_T37]
theorem sums_l0 {S : List S34} {L : List S37} {c t : Int} (hS : S.length ≤ 40) (hin : ∀ x ∈ S, SampleIn 100 x) (h0 : 1 ≤ c) (h1 : c ≤ 50) (h2 : 1 ≤ t) (h3 : t ≤ 50) (hL : L.length = S.length)
    (hj : ∀ j : Nat, j < S.length → ∃ x, S[j]? = some x ∧ (rd_T37 L (j : Int)).f0 = addS c t x ∧ (rd_T37 L (j : Int)).f1 = c * t * 100) :
    ∀ m j : Nat, S.length - j = m → j ≤ S.length → ∀ a : Int, -(j * 10000000) ≤ a → a ≤ j * 10000000 → Ev (fun k => flagstonelaw39_ScoreSums.l0 k S c t L a a (j : Int)) true := by
  intro m
  induction m with
  | zero =>
    intro j hm hjl a _ _
    refine Ev.step (fun k => by simp only [flagstonelaw39_ScoreSums.l0]; rfl) ?_
    refine Ev.neg (by omega) ?_
    rw [show (a == a) = true by simp]
    exact Ev.now _
  | succ m ih =>
    intro j hm hjl a ha0 ha1
    have hl : j < S.length := by omega
    have hw : wrap64 ((j : Int) + 1) = ((j + 1 : Nat) : Int) := by rw [w64_id (by omega) (by omega)]; omega
    obtain ⟨x, q1, q2, q3⟩ := hj j hl
    have hx := hin x (List.mem_of_getElem? q1)
    have ex : rd_T34 S (j : Int) = x := by rw [rd_T hl]; rw [List.getElem?_eq_getElem hl] at q1; exact Option.some.inj q1
    have p := mul_le (x := c) (y := t) (a := 50) (b := 50) (by omega) (by omega) h1 h3
    have p1 := mul_le (x := c + t) (y := c) (a := 100) (b := 50) (by omega) (by omega) (by omega) h1
    have p2 := mul_le (x := c + t) (y := t) (a := 100) (b := 50) (by omega) (by omega) (by omega) h3
    have r1 := mul_le (x := (c + t) * c) (y := x.f1) (a := 5000) (b := 100) p1.1 hx.2.2.1 p1.2 hx.2.2.2.1
    have r2 := mul_le (x := (c + t) * t) (y := x.f1) (a := 5000) (b := 100) p2.1 hx.2.2.1 p2.2 hx.2.2.2.1
    have e1 : wrap64 (wrap64 (c * t) * 100) = c * t * 100 := by rw [w64_id (x := c * t) (by omega) (by omega), w64_id (by omega) (by omega)]
    have e2 : wrap64 (wrap64 (wrap64 (c + t) * c) * x.f1) = (c + t) * c * x.f1 := by rw [w64_id (x := c + t) (by omega) (by omega), w64_id (x := (c + t) * c) (by omega) (by omega), w64_id (by omega) (by omega)]
    have e3 : wrap64 (wrap64 (wrap64 (c + t) * t) * x.f1) = (c + t) * t * x.f1 := by rw [w64_id (x := c + t) (by omega) (by omega), w64_id (x := (c + t) * t) (by omega) (by omega), w64_id (by omega) (by omega)]
    refine Ev.step (fun k => by simp only [flagstonelaw39_ScoreSums.l0]; rfl) ?_
    rw [ex, e1, e2, e3, q2, q3, hw]
    have next := ih (j + 1) (by omega) (by omega)
    refine Ev.pos (by omega) (Ev.pos (by omega) (Ev.pos (by omega) (Ev.pos rfl (Ev.both (fun hc => ?_) (fun hc => ?_)))))
    · have e4 : addS c t x = (c + t) * c * x.f1 := by unfold addS; rw [if_neg (by omega)]
      rw [e4, w64_id (by omega) (by omega)]
      exact next _ (by omega) (by omega)
    · have e4 : addS c t x = -((c + t) * t * x.f1) := by unfold addS; rw [if_pos (by have := hx.1; omega)]
      rw [e4, w64_id (by omega) (by omega), w64_id (by omega) (by omega), Int.sub_eq_add_neg]
      exact next _ (by omega) (by omega)
theorem ScoreSums : flagstonelaw39_ScoreSums.Pure := by
  intro l0 a b m0 y0 w0 w1 w2
  apply Ev.rounds
  unfold flagstonelaw39_ScoreSums.f
  obtain ⟨a0, a1⟩ := u8_of w1
  obtain ⟨b0, b1⟩ := u8_of w2
  have ea : wrap64 (1 + Int.tmod (wrap64 a) 50) = 1 + a % 50 := by rw [w64_id (x := a) (by omega) (by omega), Int.tmod_eq_emod_of_nonneg a0, w64_id (by omega) (by omega)]
  have eb : wrap64 (1 + Int.tmod (wrap64 b) 50) = 1 + b % 50 := by rw [w64_id (x := b) (by omega) (by omega), Int.tmod_eq_emod_of_nonneg b0, w64_id (by omega) (by omega)]
  rw [ea, eb]
  refine Ev.bind awake39_is (Ev.pos rfl (Ev.both (fun _ => Ev.now _) (fun hl => ?_)))
  obtain ⟨S, hS, hS40, hin⟩ := samples_are l0 (u8s w0) (by omega) 100 (by decide) (by decide)
  have h0 : 1 ≤ 1 + a % 50 := by omega
  have h1 : 1 + a % 50 ≤ 50 := by omega
  have h2 : 1 ≤ 1 + b % 50 := by omega
  have h3 : 1 + b % 50 ≤ 50 := by omega
  generalize 1 + a % 50 = c at *
  generalize 1 + b % 50 = t at *
  obtain ⟨g1, g2⟩ := sums_all hS40 hin h0 h1 h2 h3 S.length 0 rfl (by omega)
  rw [List.drop_zero] at g1 g2
  refine Ev.bind hS (Ev.bind (All_is _ _ _ _ (by omega) (by simp)) (Ev.pos (by omega) (sums_l0 hS40 hin h0 h1 h2 h3 (by omega) (fun j hj => ?_) S.length 0 (by omega) (by omega) 0 (by omega) (by omega))))
  have := g2 j (by omega)
  rw [Nat.zero_add] at this
  exact this
end Go.Proofs.Ytdmhdbebjjhopaa.Pure
