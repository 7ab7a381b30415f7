/- Made samples: there are at most forty of them; their arms, versions and values lie in their ranges. -/
import Derived.Test.YtdmhdbebjjhopaaPA8
import Derived.Test.YtdmhdbebjjhopaaML
import Derived.Test.YtdmhdbebjjhopaaME
namespace Go.Proofs.Ytdmhdbebjjhopaa.PA
open Go Go.RowKit Go.Proofs.YtdmhdbebjjhopaaW.PrintWords Go.Proofs.YtdmhdbebjjhopaaW.PrintLast Go.Proofs.YtdmhdbebjjhopaaW.PrintMore Go.Proofs.Ytdmhdbebjjhopaa.M
set_option linter.unusedVariables false
set_option linter.unusedSimpArgs false

theorem next_in {l : List Int} (hl : ∀ x ∈ l, 0 ≤ x ∧ x ≤ 255) (at_ n : Int) (h0 : 0 ≤ at_) (h1 : at_ ≤ l.length) (hm : l.length ≤ 4611686018427387904) (hn : 0 < n) :
    ∃ x a', flagstonedata_Source_Next.f l at_ n = some (x, a') ∧ 0 ≤ a' ∧ a' ≤ l.length ∧ 0 ≤ x ∧ x < n ∧ x ≤ 255 := by
  unfold flagstonedata_Source_Next.f
  by_cases c : at_ ≥ (l.length : Int)
  · rw [if_pos c]; exact ⟨_, _, rfl, h0, h1, by omega, by omega, by omega⟩
  · have e1 : wrap64 (at_ + 1) = at_ + 1 := w64_id (by omega) (by omega)
    have e2 : wrap64 (at_ + 1 - 1) = at_ := by rw [w64_id (by omega) (by omega)]; omega
    rw [if_neg c, e1, e2, if_pos h0, if_pos (by omega), if_neg (by omega)]
    obtain ⟨i, rfl⟩ := Int.eq_ofNat_of_zero_le h0
    have hi : i < l.length := by omega
    have hr : rd l (i : Int) = l[i] := by unfold rd; simp [hi]
    have hb := hl _ (List.getElem_mem hi)
    have hb2 : 0 ≤ Int.tmod (wrap64 (rd l (i : Int))) n ∧ Int.tmod (wrap64 (rd l (i : Int))) n < n ∧ Int.tmod (wrap64 (rd l (i : Int))) n ≤ 255 := by
      rw [hr, w64_id (by omega) (by omega), Int.tmod_eq_emod_of_nonneg hb.1]
      have q1 := Int.emod_nonneg l[i] (show n ≠ 0 by omega)
      have q2 := Int.emod_lt_of_pos l[i] hn
      have q3 : l[i] % n ≤ l[i] := by
        rcases Int.lt_or_le l[i] n with c | c
        · rw [Int.emod_eq_of_lt hb.1 c]; omega
        · omega
      omega
    exact ⟨_, _, rfl, by omega, by omega, hb2⟩
theorem id_is (i : Nat) (h : i ≤ 40) : ∃ b, flagstonedata_Id.f (i : Int) = some b := by
  unfold flagstonedata_Id.f flagstonedata_Ids.f
  simp only [Option.bind_some, List.length_cons, List.length_nil]
  rw [if_neg (by decide), Int.tmod_eq_emod_of_nonneg (by omega), if_pos (by omega), if_pos (by omega)]
  exact ⟨_, rfl⟩
def SampleIn (cap : Int) (x : S34) : Prop := (x.f0.f4 = 1 ∨ x.f0.f4 = 2) ∧ (x.f0.f5 = 1 ∨ x.f0.f5 = 2) ∧ 0 ≤ x.f1 ∧ x.f1 ≤ cap ∧ 0 ≤ x.f3 ∧ x.f3 ≤ 4
theorem samples_are (l : List Int) (hl : ∀ x ∈ l, 0 ≤ x ∧ x ≤ 255) (hm : l.length ≤ 4611686018427387904) (cap : Int) (c0 : 0 ≤ cap) (c1 : cap ≤ 1000000) :
    ∃ S, Ev (fun k => flagstonedata_Samples.f k l cap) S ∧ S.length ≤ 40 ∧ ∀ x ∈ S, SampleIn cap x := by
  unfold flagstonedata_Samples.f
  have go : ∀ n i, 40 - i = n → i ≤ 40 → ∀ (out : List S34) (a : Int), out.length = i → (∀ x ∈ out, SampleIn cap x) → 0 ≤ a → a ≤ l.length → ∃ S, Ev (fun k => flagstonedata_Samples.l0 k cap out l a) S ∧ S.length ≤ 40 ∧ ∀ x ∈ S, SampleIn cap x := by
    intro n
    induction n with
    | zero =>
      intro i hn hi out a ho hs h0 h1
      refine ⟨out, Ev.step (f := fun k => if decide (a < (l.length : Int)) = true then (flagstonedata_Samples.j1 k cap out (decide ((out.length : Int) < 40)) l a) else (flagstonedata_Samples.j1 k cap out false l a)) (fun k => by simp only [flagstonedata_Samples.l0, flagstonedata_Source_More.f, Option.bind_some]) ?_, by omega, hs⟩
      have stop : Ev (fun k => flagstonedata_Samples.j1 k cap out false l a) out := Ev.step (f := fun _ => some out) (fun k => by simp only [flagstonedata_Samples.j1]; rw [if_neg (by decide)]) (Ev.now _)
      rw [decide_eq_false (show ¬ (out.length : Int) < 40 by omega)]
      exact Ev.both (fun _ => stop) (fun _ => stop)
    | succ n ih =>
      intro i hn hi out a ho hs h0 h1
      have stop : Ev (fun k => flagstonedata_Samples.j1 k cap out false l a) out := Ev.step (f := fun _ => some out) (fun k => by simp only [flagstonedata_Samples.j1]; rw [if_neg (by decide)]) (Ev.now _)
      by_cases hmore : a < (l.length : Int)
      · obtain ⟨b, eb⟩ := id_is out.length (by omega)
        obtain ⟨x1, a1, e1, b1, d1, f1, g1, k1⟩ := next_in hl a 2 h0 h1 hm (by decide)
        obtain ⟨x2, a2, e2, b2, d2, f2, g2, k2⟩ := next_in hl a1 2 b1 d1 hm (by decide)
        obtain ⟨x3, a3, e3, b3, d3, f3, g3, k3⟩ := next_in hl a2 256 b2 d2 hm (by decide)
        obtain ⟨x4, a4, e4, b4, d4, f4, g4, k4⟩ := next_in hl a3 9 b3 d3 hm (by decide)
        obtain ⟨x5, a5, e5, b5, d5, f5, g5, k5⟩ := next_in hl a4 5 b4 d4 hm (by decide)
        have ec : wrap64 (cap + 1) = cap + 1 := w64_id (by omega) (by omega)
        have m3 : Int.tmod x3 (cap + 1) = x3 % (cap + 1) := Int.tmod_eq_emod_of_nonneg f3
        have v1 := Int.emod_nonneg x3 (show cap + 1 ≠ 0 by omega)
        have v2 := Int.emod_lt_of_pos x3 (show 0 < cap + 1 by omega)
        have u1 : wrap64 (1 + x1) = 1 + x1 := w64_id (by omega) (by omega)
        have u2 : wrap64 (1 + x2) = 1 + x2 := w64_id (by omega) (by omega)
        obtain ⟨S, hS, hl', hs'⟩ := ih (i + 1) (by omega) (by omega) (out ++ [(⟨(⟨b, (⟨#[97, 112, 112]⟩ : ByteArray), wrap64 ((out.length : Int) + 1), (out.length : Int), wrap64 (1 + x1), wrap64 (1 + x2)⟩ : S32), Int.tmod x3 (wrap64 (cap + 1)), x4, x5, false⟩ : S34)]) a5 (by simp; omega) (fun x hx => by
          rcases List.mem_append.mp hx with hx | hx
          · exact hs x hx
          · rw [List.mem_singleton] at hx
            subst hx
            simp only [SampleIn, u1, u2, ec, m3]
            omega) b5 d5
        refine ⟨S, Ev.step (f := fun k => if decide (a < (l.length : Int)) = true then (flagstonedata_Samples.j1 k cap out (decide ((out.length : Int) < 40)) l a) else (flagstonedata_Samples.j1 k cap out false l a)) (fun k => by simp only [flagstonedata_Samples.l0, flagstonedata_Source_More.f, Option.bind_some]) (Ev.pos (decide_eq_true hmore) ?_), hl', hs'⟩
        rw [decide_eq_true (show (out.length : Int) < 40 by omega)]
        refine Ev.step (fun k => ?_) hS
        simp only [flagstonedata_Samples.j1]
        rw [if_pos trivial, eb]
        simp only [Option.bind_some]
        rw [e1]
        simp only [Option.bind_some]
        rw [e2]
        simp only [Option.bind_some]
        rw [e3]
        simp only [Option.bind_some]
        rw [if_neg (by rw [ec]; omega), e4]
        simp only [Option.bind_some]
        rw [e5]
        simp only [Option.bind_some]
        rw [if_pos (by omega)]
      · refine ⟨out, Ev.step (f := fun k => if decide (a < (l.length : Int)) = true then (flagstonedata_Samples.j1 k cap out (decide ((out.length : Int) < 40)) l a) else (flagstonedata_Samples.j1 k cap out false l a)) (fun k => by simp only [flagstonedata_Samples.l0, flagstonedata_Source_More.f, Option.bind_some]) (Ev.neg (by simpa using hmore) stop), by omega, hs⟩
  exact go 40 0 (by omega) (by omega) [] 0 rfl (fun x hx => by cases hx) (by omega) (by omega)
end Go.Proofs.Ytdmhdbebjjhopaa.PA
