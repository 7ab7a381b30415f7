/- A greater effect never has a greater wealth with up, and never a smaller one without: in plain whole numbers. -/
import Derived.Test.YtdclcdaoidbgbaaP2
namespace Go.Proofs.Ytdclcdaoidbgbaa.PA
open Go Go.RowKit Go.Proofs.YtdclcdaoidbgbaaW.PrintWords Go.Proofs.YtdclcdaoidbgbaaW.PrintLast Go.Proofs.YtdclcdaoidbgbaaW.PrintMore Go.Proofs.Ytdclcdaoidbgbaa.M
set_option linter.unusedVariables false
set_option linter.unusedSimpArgs false

theorem growS_mono {w w' n n' d : Int} (h0 : 0 ≤ w') (h1 : w' ≤ w) (h2 : w ≤ 2305843009213693952) (hd : 1 ≤ d) (hd' : d ≤ 4611686018427387904) (hn : n' ≤ n) : growS w' n' d ≤ growS w n d := by
  by_cases c : n' < 0
  · have : growS w' n' d = 0 := by unfold growS; rw [if_pos (by omega)]
    rw [this]; exact (growS_range _ _ _).1
  · have m : w' * n' ≤ w * n := Int.mul_le_mul h1 hn (by omega) (by omega)
    have q : w' * n' / d ≤ w * n / d := Int.ediv_le_ediv (by omega) m
    generalize hx : w' * n' / d = x at q
    generalize hy : w * n / d = y at q
    unfold growS
    rw [hx, hy]
    clear m hx hy
    have c1 : ¬ (w < 0 ∨ 2305843009213693952 < w ∨ d < 1 ∨ 4611686018427387904 < d ∨ n < 0) := by omega
    have c2 : ¬ (w' < 0 ∨ 2305843009213693952 < w' ∨ d < 1 ∨ 4611686018427387904 < d ∨ n' < 0) := by omega
    rw [if_neg c1, if_neg c2]
    split <;> split <;> omega
theorem factor_at {e b : Int} {up : Bool} {s : S50} (hv : validS s.f0 s.f1 s.f2 = true) (he0 : -1000 ≤ e) (he1 : e ≤ 1000) (hb0 : 0 ≤ b) (hb : b ≤ 4) :
    factorS s.f0 s.f1 s.f2 e b up = (1000 * 8 * s.f2 + (if up then b * (1000 * s.f0 - s.f1 * e) else -(b * (1000 * s.f0 - s.f1 * e))), 1000 * 8 * s.f2) := by
  unfold factorS
  rw [if_pos ⟨hv, he0, he1, hb0, hb⟩]
  split <;> rfl
theorem factor_no {e b : Int} {up : Bool} {s : S50} (hv : ¬ validS s.f0 s.f1 s.f2 = true) : factorS s.f0 s.f1 s.f2 e b up = (1, 1) := by
  unfold factorS
  rw [if_neg (fun c => hv c.1)]
theorem betS_up {e e' b w w' : Int} {s : S50} (he0 : -1000 ≤ e) (he : e ≤ e') (he1 : e' ≤ 1000) (hb0 : 0 ≤ b) (hb : b ≤ 4) (h0 : 0 ≤ w') (h1 : w' ≤ w) (h2 : w ≤ 2305843009213693952) : betS e' true b w' s ≤ betS e true b w s := by
  unfold betS
  by_cases hv : validS s.f0 s.f1 s.f2 = true
  · obtain ⟨v1, v2, v3, v4, v5⟩ := validS_iff.mp hv
    rw [factor_at hv (by omega) he1 hb0 hb, factor_at hv he0 (by omega) hb0 hb]
    have k1 : s.f1 * e ≤ s.f1 * e' := Int.mul_le_mul_of_nonneg_left he (by omega)
    have k2 : b * (1000 * s.f0 - s.f1 * e') ≤ b * (1000 * s.f0 - s.f1 * e) := Int.mul_le_mul_of_nonneg_left (by omega) hb0
    refine growS_mono h0 h1 h2 ?_ ?_ ?_
    · clear k1 k2; simp only; omega
    · clear k1 k2; simp only; omega
    · simp only [if_true]; omega
  · rw [factor_no hv, factor_no hv]
    exact growS_mono h0 h1 h2 (by decide) (by decide) (by decide)
theorem betS_down {e e' b w w' : Int} {s : S50} (he0 : -1000 ≤ e) (he : e ≤ e') (he1 : e' ≤ 1000) (hb0 : 0 ≤ b) (hb : b ≤ 4) (h0 : 0 ≤ w) (h1 : w ≤ w') (h2 : w' ≤ 2305843009213693952) : betS e false b w s ≤ betS e' false b w' s := by
  unfold betS
  by_cases hv : validS s.f0 s.f1 s.f2 = true
  · obtain ⟨v1, v2, v3, v4, v5⟩ := validS_iff.mp hv
    rw [factor_at hv (by omega) he1 hb0 hb, factor_at hv he0 (by omega) hb0 hb]
    have k1 : s.f1 * e ≤ s.f1 * e' := Int.mul_le_mul_of_nonneg_left he (by omega)
    have k2 : b * (1000 * s.f0 - s.f1 * e') ≤ b * (1000 * s.f0 - s.f1 * e) := Int.mul_le_mul_of_nonneg_left (by omega) hb0
    refine growS_mono h0 h1 h2 ?_ ?_ ?_
    · clear k1 k2; simp only; omega
    · clear k1 k2; simp only; omega
    · simp only [Bool.false_eq_true, if_false]; omega
  · rw [factor_no hv, factor_no hv]
    exact growS_mono h0 h1 h2 (by decide) (by decide) (by decide)
theorem rd_cons (x : Int) (xs : List Int) (i : Nat) : rd (x :: xs) ((i + 1 : Nat) : Int) = rd xs (i : Int) := by simp [rd]
theorem rd_zero (x : Int) (xs : List Int) : rd (x :: xs) 0 = x := rfl
theorem pathS_up {e e' : Int} (he0 : -1000 ≤ e) (he : e ≤ e') (he1 : e' ≤ 1000) : ∀ (l : List S50) (a b c a' b' c' : Int), 0 ≤ a' → a' ≤ a → a ≤ 2305843009213693952 → 0 ≤ b' → b' ≤ b → b ≤ 2305843009213693952 → 0 ≤ c' → c' ≤ c → c ≤ 2305843009213693952 →
    ∀ i : Nat, i < l.length → rd (pathS e' true a' b' c' l) (i : Int) ≤ rd (pathS e true a b c l) (i : Int)
  | [], _, _, _, _, _, _, _, _, _, _, _, _, _, _, _, i, hi => by simp at hi
  | s :: l, a, b, c, a', b', c', ha0, ha, ha1, hb0, hb, hb1, hc0, hc, hc1, i, hi => by
    have m1 := betS_up (s := s) he0 he he1 (by decide) (by decide : (1 : Int) ≤ 4) ha0 ha ha1
    have m2 := betS_up (s := s) he0 he he1 (by decide) (by decide : (2 : Int) ≤ 4) hb0 hb hb1
    have m4 := betS_up (s := s) he0 he he1 (by decide) (by decide : (4 : Int) ≤ 4) hc0 hc hc1
    have r1 := betS_range e true 1 a s
    have r2 := betS_range e true 2 b s
    have r4 := betS_range e true 4 c s
    have q1 := betS_range e' true 1 a' s
    have q2 := betS_range e' true 2 b' s
    have q4 := betS_range e' true 4 c' s
    cases i with
    | zero =>
      simp only [pathS]
      show _ / 3 ≤ _ / 3
      omega
    | succ i =>
      simp only [pathS]
      rw [rd_cons, rd_cons]
      exact pathS_up he0 he he1 l _ _ _ _ _ _ q1.1 m1 r1.2 q2.1 m2 r2.2 q4.1 m4 r4.2 i (by simpa using hi)
theorem pathS_down {e e' : Int} (he0 : -1000 ≤ e) (he : e ≤ e') (he1 : e' ≤ 1000) : ∀ (l : List S50) (a b c a' b' c' : Int), 0 ≤ a → a ≤ a' → a' ≤ 2305843009213693952 → 0 ≤ b → b ≤ b' → b' ≤ 2305843009213693952 → 0 ≤ c → c ≤ c' → c' ≤ 2305843009213693952 →
    ∀ i : Nat, i < l.length → rd (pathS e false a b c l) (i : Int) ≤ rd (pathS e' false a' b' c' l) (i : Int)
  | [], _, _, _, _, _, _, _, _, _, _, _, _, _, _, _, i, hi => by simp at hi
  | s :: l, a, b, c, a', b', c', ha0, ha, ha1, hb0, hb, hb1, hc0, hc, hc1, i, hi => by
    have m1 := betS_down (s := s) he0 he he1 (by decide) (by decide : (1 : Int) ≤ 4) ha0 ha ha1
    have m2 := betS_down (s := s) he0 he he1 (by decide) (by decide : (2 : Int) ≤ 4) hb0 hb hb1
    have m4 := betS_down (s := s) he0 he he1 (by decide) (by decide : (4 : Int) ≤ 4) hc0 hc hc1
    have r1 := betS_range e false 1 a s
    have r2 := betS_range e false 2 b s
    have r4 := betS_range e false 4 c s
    have q1 := betS_range e' false 1 a' s
    have q2 := betS_range e' false 2 b' s
    have q4 := betS_range e' false 4 c' s
    cases i with
    | zero =>
      simp only [pathS]
      show _ / 3 ≤ _ / 3
      omega
    | succ i =>
      simp only [pathS]
      rw [rd_cons, rd_cons]
      exact pathS_down he0 he he1 l _ _ _ _ _ _ r1.1 m1 q1.2 r2.1 m2 q2.2 r4.1 m4 q4.2 i (by simpa using hi)
theorem pathS_range (e : Int) (up : Bool) : ∀ (l : List S50) (a b c : Int) (i : Nat), i < l.length → 0 ≤ rd (pathS e up a b c l) (i : Int) ∧ rd (pathS e up a b c l) (i : Int) ≤ 2305843009213693952
  | [], _, _, _, i, hi => by simp at hi
  | s :: l, a, b, c, i, hi => by
    have r1 := betS_range e up 1 a s
    have r2 := betS_range e up 2 b s
    have r4 := betS_range e up 4 c s
    cases i with
    | zero =>
      simp only [pathS]
      show 0 ≤ _ / 3 ∧ _ / 3 ≤ _
      omega
    | succ i =>
      simp only [pathS]
      rw [rd_cons]
      exact pathS_range e up l _ _ _ i (by simpa using hi)
end Go.Proofs.Ytdclcdaoidbgbaa.PA
