/- Lows never fall, Highs never rise; a greater level never gives a wider interval. No condition. -/
import Derived.Test.YtdclcdaoidbgbaaPA15
import Derived.Test.YtdclcdaoidbgbaaP1
import Derived.Test.YtdclcdaoidbgbaaQ4
import Derived.Test.YtdclcdaoidbgbaaQ7
namespace Go.Proofs.Ytdclcdaoidbgbaa.Pure
open Go Go.RowKit Go.Proofs.Ytdclcdaoidbgbaa.PA Go.Proofs.YtdclcdaoidbgbaaW.PrintWords Go.Proofs.YtdclcdaoidbgbaaW.PrintLast Go.Proofs.YtdclcdaoidbgbaaW.PrintMore Go.Proofs.Ytdclcdaoidbgbaa.M
set_option linter.unusedVariables false
set_option linter.unusedSimpArgs false

theorem ex_more {thr thr' kk kk' e : Int} {up : Bool} {l : List S50} (hl : l.length < 1000000) (ht : thr' ≤ thr) (hk : kk ≤ kk') (hk' : kk' < 9223372036854775807) (h : exB thr up l kk e = true) : exB thr' up l kk' e = true := by
  obtain ⟨i, h1, h2, h3⟩ := (exB_iff (by omega) (by omega)).mp h
  exact (exB_iff hk' (by omega)).mpr ⟨i, h1, by omega, by omega⟩
theorem low_more {thr thr' kk kk' : Int} {l : List S50} (hl : l.length < 1000000) (ht : thr' ≤ thr) (hk : kk ≤ kk') (hk' : kk' < 9223372036854775807) : lowS thr l kk ≤ lowS thr' l kk' := by
  have a := lowS_spec (thr := thr) (l := l) (kk := kk) (by omega) (by omega)
  have b := lowS_spec (thr := thr') (l := l) (kk := kk') hk' (by omega)
  rcases Int.lt_or_le (lowS thr' l kk') (lowS thr l kk) with c | c
  · have := (b.2.2 _ b.1 (by omega)).mp (ex_more hl ht hk hk' ((a.2.2 _ b.1 (by omega)).mpr c))
    omega
  · exact c
theorem high_more {thr thr' kk kk' : Int} {l : List S50} (hl : l.length < 1000000) (ht : thr' ≤ thr) (hk : kk ≤ kk') (hk' : kk' < 9223372036854775807) : highS thr' l kk' ≤ highS thr l kk := by
  have a := highS_spec (thr := thr) (l := l) (kk := kk) (by omega) (by omega)
  have b := highS_spec (thr := thr') (l := l) (kk := kk') hk' (by omega)
  rcases Int.lt_or_le (highS thr l kk) (highS thr' l kk') with c | c
  · have := (b.2.2 _ (by omega) b.2.1).mp (ex_more hl ht hk hk' ((a.2.2 _ (by omega) b.2.1).mpr c))
    omega
  · exact c
theorem thr_less {x y : Int} (hx : 1 ≤ x) (hxy : x ≤ y) (hy : y ≤ 999) : thresholdS y 2 ≤ thresholdS x 2 := by
  unfold thresholdS
  rw [if_pos (by omega), if_pos (by omega)]
  have d1 := Int.mul_ediv_add_emod (2 * 4294967296000 + x - 1) x
  have d2 := Int.emod_lt_of_pos (2 * 4294967296000 + x - 1) (show 0 < x by omega)
  have q0 : 0 ≤ (2 * 4294967296000 + x - 1) / x := Int.ediv_nonneg (by omega) (by omega)
  generalize (2 * 4294967296000 + x - 1) / x = q at *
  have q1 : x * q ≤ y * q := Int.mul_le_mul_of_nonneg_right hxy q0
  have : (2 * 4294967296000 + y - 1) / y < q + 1 := by
    apply Int.ediv_lt_of_lt_mul (by omega)
    rw [Int.add_mul, Int.one_mul, Int.mul_comm q y]
    omega
  omega
theorem nar_l0 {S : List S50} {t t' : Int} (hS : S.length ≤ 30) (ht : t' ≤ t) : ∀ m i : Nat, i + m = S.length →
    Ev (fun k => flagstonelaw41_SequenceNarrows.l0 k S (i : Int) (lowsS t S S.length 0) (highsS t S S.length 0) (lowsS t' S S.length 0) (highsS t' S S.length 0)) true := by
  intro m
  have a1 := lowsS_length t S S.length 0
  have a2 := highsS_length t S S.length 0
  have a3 := lowsS_length t' S S.length 0
  have a4 := highsS_length t' S S.length 0
  induction m with
  | zero =>
    intro i hi
    refine Ev.step (f := fun _ => some true) (fun k => ?_) (Ev.now _)
    simp only [flagstonelaw41_SequenceNarrows.l0]
    rw [if_neg (by omega)]
  | succ m ih =>
    intro i hi
    have hw : wrap64 ((i : Int) + 1) = ((i + 1 : Nat) : Int) := by rw [w64_id (by omega) (by omega)]; omega
    have hS' : S.length < 1000000 := by omega
    have next : Ev (fun k => flagstonelaw41_SequenceNarrows.j3 k S (i : Int) false (lowsS t S S.length 0) (highsS t S S.length 0) (lowsS t' S S.length 0) (highsS t' S S.length 0)) true := by
      refine Ev.step (fun k => by simp only [flagstonelaw41_SequenceNarrows.j3]; rfl) ?_
      rw [hw]
      exact Ev.neg (by decide) (ih (i + 1) (by omega))
    have e1 := lowsS_at t S S.length 0 i (by omega)
    have e2 := highsS_at t S S.length 0 i (by omega)
    have e3 := lowsS_at t' S S.length 0 i (by omega)
    have e4 := highsS_at t' S S.length 0 i (by omega)
    have m1 := low_more (l := S) (kk := ((0 + i : Nat) : Int) + 1) (kk' := ((0 + i : Nat) : Int) + 1) hS' ht (by omega) (by omega)
    have m2 := high_more (l := S) (kk := ((0 + i : Nat) : Int) + 1) (kk' := ((0 + i : Nat) : Int) + 1) hS' ht (by omega) (by omega)
    refine Ev.step (fun k => by simp only [flagstonelaw41_SequenceNarrows.l0]; rfl) ?_
    refine Ev.pos (by omega) (Ev.both (fun h0 => ?_) (fun h0 => ?_))
    · obtain ⟨j, rfl⟩ : ∃ j, i = j + 1 := ⟨i - 1, by omega⟩
      have hj : wrap64 (((j + 1 : Nat) : Int) - 1) = (j : Int) := by rw [w64_id (by omega) (by omega)]; omega
      have g1 := lowsS_at t S S.length 0 j (by omega)
      have g2 := highsS_at t S S.length 0 j (by omega)
      have n1 := low_more (l := S) (thr := t) (thr' := t) (kk := ((0 + j : Nat) : Int) + 1) (kk' := ((0 + (j + 1) : Nat) : Int) + 1) hS' (by omega) (by omega) (by omega)
      have n2 := high_more (l := S) (thr := t) (thr' := t) (kk := ((0 + j : Nat) : Int) + 1) (kk' := ((0 + (j + 1) : Nat) : Int) + 1) hS' (by omega) (by omega) (by omega)
      rw [hj, e1, e2, e3, e4, g1, g2]
      refine Ev.pos (by omega) (Ev.pos (by omega) (Ev.pos (by omega) (Ev.pos (by omega) (Ev.neg (by omega) (Ev.pos (by omega) (Ev.pos (by omega) (Ev.neg (by omega) (Ev.pos (by omega) (Ev.neg (by omega) (Ev.pos (by omega) ?_))))))))))
      rw [decide_eq_false (by omega)]
      exact next
    · rw [e1, e2, e3, e4]
      refine Ev.pos (by omega) (Ev.pos (by omega) (Ev.pos (by omega) (Ev.neg (by omega) (Ev.pos (by omega) (Ev.pos (by omega) ?_)))))
      rw [decide_eq_false (by omega)]
      exact next
theorem nar_j0 {S : List S50} {x y : Int} (hS : S.length ≤ 30) (hx : 1 ≤ x) (hxy : x ≤ y) (hy : y ≤ 999) : Ev (fun k => flagstonelaw41_SequenceNarrows.j0 k S x y) true := by
  have a1 := lowsS_length (thresholdS x 2) S S.length 0
  have a2 := highsS_length (thresholdS x 2) S S.length 0
  have a3 := lowsS_length (thresholdS y 2) S S.length 0
  have a4 := highsS_length (thresholdS y 2) S S.length 0
  refine Ev.step (fun k => by simp only [flagstonelaw41_SequenceNarrows.j0]; rfl) ?_
  refine Ev.bind (Of41_is _ (by omega)) (Ev.bind (Of41_is _ (by omega)) (Ev.pos (by dsimp only; omega) (Ev.pos (by dsimp only; omega) (Ev.pos (by dsimp only; omega) ?_))))
  dsimp only
  rw [a4, show ((S.length : Int) != (S.length : Int)) = false by simp]
  refine Ev.step (fun k => by simp only [flagstonelaw41_SequenceNarrows.j1]; rfl) ?_
  exact Ev.neg (by decide) (nar_l0 hS (thr_less hx hxy hy) S.length 0 (by omega))
theorem SequenceNarrows : flagstonelaw41_SequenceNarrows.Pure := by
  intro l0 a b m0 y0 w0 w1 w2
  apply Ev.rounds
  unfold flagstonelaw41_SequenceNarrows.f
  obtain ⟨a0, a1⟩ := u16_of w1
  obtain ⟨b0, b1⟩ := u16_of w2
  refine Ev.bind awake41_is (Ev.pos rfl (Ev.both (fun _ => Ev.now _) (fun hl => ?_)))
  obtain ⟨S, hS, hS30⟩ := scores_are l0 (by omega)
  have lv : ∀ v : Int, 0 ≤ v → v ≤ 65535 → wrap64 (1 + Int.tmod (wrap64 v) 999) = 1 + v % 999 := fun v h0 h1 => by rw [w64_id (x := v) (by omega) (by omega), Int.tmod_eq_emod_of_nonneg h0, w64_id (by omega) (by omega)]
  have hmn : 0 ≤ mn a b ∧ mn a b ≤ 65535 := by unfold mn; split <;> omega
  have hmx : 0 ≤ mx a b ∧ mx a b ≤ 65535 := by unfold mx; split <;> omega
  rw [lv _ hmn.1 hmn.2, lv _ hmx.1 hmx.2]
  exact Ev.bind hS (Ev.both (fun h => nar_j0 hS30 (by omega) (by omega) (by omega)) (fun h => nar_j0 hS30 (by omega) (by omega) (by omega)))
end Go.Proofs.Ytdclcdaoidbgbaa.Pure
