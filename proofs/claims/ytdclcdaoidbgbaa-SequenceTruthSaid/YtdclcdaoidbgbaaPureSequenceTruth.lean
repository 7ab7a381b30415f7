/- The true effect is never excluded; effects far from it are. No condition. -/
import Derived.Test.YtdclcdaoidbgbaaPA16
import Derived.Test.YtdclcdaoidbgbaaQ4
import Derived.Test.YtdclcdaoidbgbaaQ6
namespace Go.Proofs.Ytdclcdaoidbgbaa.Pure
open Go Go.RowKit Go.Proofs.Ytdclcdaoidbgbaa.PA Go.Proofs.YtdclcdaoidbgbaaW.PrintWords Go.Proofs.YtdclcdaoidbgbaaW.PrintLast Go.Proofs.YtdclcdaoidbgbaaW.PrintMore Go.Proofs.Ytdclcdaoidbgbaa.M
set_option linter.unusedVariables false
set_option linter.unusedSimpArgs false

theorem truth_end {a n u : Int} (ha0 : 0 ≤ a) (ha1 : a ≤ 65535) (h0 : 1 ≤ u) (h1 : u ≤ 10) (h2 : -u ≤ n) (h3 : n ≤ u) : ∀ m i : Nat, 300 - i = m → i ≤ 300 →
    Ev (fun k => flagstonelaw41_SequenceTruth.l0 k a u (List.replicate i (evenS n u)) (i : Int) n u (2 * u)) true := by
  intro m
  induction m with
  | zero =>
    intro i hm hi
    obtain rfl : i = 300 := by omega
    refine Ev.step (fun k => by simp only [flagstonelaw41_SequenceTruth.l0]; rfl) ?_
    have hw : wrap64 (50 + Int.tmod (wrap64 a) 900) = 50 + a % 900 := by rw [w64_id (x := a) (by omega) (by omega), Int.tmod_eq_emod_of_nonneg ha0, w64_id (by omega) (by omega)]
    rw [hw]
    have lo := truth_low (v := 50 + a % 900) h0 (by omega) h2 h3 (by omega) (by omega)
    have hi := truth_high (v := 50 + a % 900) h0 (by omega) h2 h3 (by omega) (by omega)
    have hlen : ((List.replicate 300 (evenS n u)).length : Int) = 300 := by rw [List.length_replicate]; rfl
    have LO := Lower_is (l := List.replicate 300 (evenS n u)) (50 + a % 900) (by rw [List.length_replicate]; decide)
    have HI := Upper_is (l := List.replicate 300 (evenS n u)) (50 + a % 900) (by rw [List.length_replicate]; decide)
    rw [hlen] at LO HI
    generalize lowS (thresholdS (50 + a % 900) 2) (List.replicate 300 (evenS n u)) 300 = L at *
    generalize highS (thresholdS (50 + a % 900) 2) (List.replicate 300 (evenS n u)) 300 = H at *
    have w1 : wrap64 (L * u) = L * u := w64_id (by omega) (by omega)
    have w2 : wrap64 (H * u) = H * u := w64_id (by omega) (by omega)
    have w3 : wrap64 (n * 1000) = 1000 * n := by rw [w64_id (by omega) (by omega)]; omega
    have w4 : wrap64 (300 * u) = 300 * u := w64_id (by omega) (by omega)
    have w5 : wrap64 (1000 * n - 300 * u) = 1000 * n - 300 * u := w64_id (by omega) (by omega)
    have w6 : wrap64 (1000 * n + 300 * u) = 1000 * n + 300 * u := w64_id (by omega) (by omega)
    refine Ev.neg (by omega) (Ev.bind LO (Ev.bind HI ?_))
    rw [w1, w2, w3, w4, w5, w6]
    refine Ev.pos (by omega) (Ev.pos (by omega) (Ev.pos (by omega) ?_))
    rw [decide_eq_true (by omega)]
    exact Ev.now _
  | succ m ih =>
    intro i hm hi
    have hw : wrap64 ((i : Int) + 1) = ((i + 1 : Nat) : Int) := by rw [w64_id (by omega) (by omega)]; omega
    have next := ih (i + 1) (by omega) (by omega)
    rw [List.replicate_succ'] at next
    refine Ev.step (fun k => by simp only [flagstonelaw41_SequenceTruth.l0]; rfl) ?_
    rw [hw]
    exact Ev.pos (by omega) (Ev.pos (by rw [List.length_replicate]; omega) next)
theorem SequenceTruth : flagstonelaw41_SequenceTruth.Pure := by
  intro a b c w0 w1 w2
  apply Ev.rounds
  unfold flagstonelaw41_SequenceTruth.f
  obtain ⟨a0, a1⟩ := u8_of w0
  obtain ⟨b0, b1⟩ := u8_of w1
  obtain ⟨c0, c1⟩ := u16_of w2
  have e1 : wrap64 (1 + Int.tmod (wrap64 a) 10) = 1 + a % 10 := by rw [w64_id (x := a) (by omega) (by omega), Int.tmod_eq_emod_of_nonneg a0, w64_id (by omega) (by omega)]
  rw [e1]
  have hu0 : 1 ≤ 1 + a % 10 := by omega
  have hu1 : 1 + a % 10 ≤ 10 := by omega
  generalize 1 + a % 10 = u at *
  have e2 : wrap64 (2 * u) = 2 * u := w64_id (by omega) (by omega)
  have e3 : wrap64 (2 * u + 1) = 2 * u + 1 := w64_id (by omega) (by omega)
  have e4 : wrap64 b = b := w64_id (by omega) (by omega)
  rw [e2, e3, e4, Int.tmod_eq_emod_of_nonneg b0]
  have v1 := Int.emod_nonneg b (show 2 * u + 1 ≠ 0 by omega)
  have v2 := Int.emod_lt_of_pos b (show 0 < 2 * u + 1 by omega)
  have e5 : wrap64 (b % (2 * u + 1) - u) = b % (2 * u + 1) - u := w64_id (by omega) (by omega)
  rw [e5]
  exact Ev.bind awake41_is (Ev.pos rfl (Ev.neg (by omega) (truth_end c0 c1 hu0 hu1 (by omega) (by omega) 300 0 rfl (by omega))))
end Go.Proofs.Ytdclcdaoidbgbaa.Pure
