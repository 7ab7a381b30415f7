/- The ends by the document's search: the same. -/
import Derived.Test.YtdclcdaoidbgbaaQ2
import Derived.Test.YtdclcdaoidbgbaaPA7
namespace Go.Proofs.Ytdclcdaoidbgbaa.PA
open Go Go.RowKit Go.Proofs.YtdclcdaoidbgbaaW.PrintWords Go.Proofs.YtdclcdaoidbgbaaW.PrintLast Go.Proofs.YtdclcdaoidbgbaaW.PrintMore Go.Proofs.Ytdclcdaoidbgbaa.M
set_option linter.unusedVariables false
set_option linter.unusedSimpArgs false

theorem first_above {thr : Int} {up : Bool} {l : List S50} {e : Int} (hl : l.length < 5864062014805) : decide (firstS thr 0 (wealthS e up l) > 0) = exB thr up l l.length e := by
  unfold exB afterS
  rcases firstS_spec thr (wealthS e up l) 0 with ⟨h1, h2⟩ | ⟨i, h1, h2, h3, h4⟩
  · rw [if_pos h1, h1, decide_eq_false (by omega), decide_eq_false (by omega)]
  · rw [wealthS_length] at h1
    rw [if_neg (by omega), h2, decide_eq_true (by omega), decide_eq_true (by omega)]
theorem Excluded_is {l : List S50} (e level : Int) (up : Bool) (hl : l.length < 5864062014805) : Ev (fun k => flagstoneref41_Excluded.f k l e level up) (exB (thresholdS level 2) up l l.length e) := by
  unfold flagstoneref41_Excluded.f
  rw [← first_above hl]
  exact Ev.bind (flagstoneref40_Path_is _ _ _ hl) (Ev.bind (flagstoneref40_Threshold_is _ _) (Ev.bind (flagstoneref40_First_is _ _ (by rw [pathS_length]; omega)) (Ev.now _)))
theorem ref_low {l : List S50} {level L : Int} (hl : l.length < 5864062014805) (hL : ∀ e, -1000 ≤ e → e ≤ 1000 → (exB (thresholdS level 2) true l l.length e = true ↔ e < L)) :
    ∀ n lo hi, (hi - lo).toNat = n → -1000 ≤ lo → hi ≤ 1001 → lo ≤ L → L ≤ hi → Ev (fun k => flagstoneref41_Lower.l0 k l level lo hi) L := by
  intro n
  induction n using Nat.strongRecOn with
  | ind n ih =>
    intro lo hi hn h0 h1 h2 h3
    by_cases c : lo < hi
    · have e1 : wrap64 (lo + wrap64 (Int.tdiv (wrap64 (hi - lo)) 2)) = lo + (hi - lo) / 2 := by
        rw [w64_id (x := hi - lo) (by omega) (by omega), Int.tdiv_eq_ediv_of_nonneg (by omega), w64_id (x := (hi - lo) / 2) (by omega) (by omega), w64_id (by omega) (by omega)]
      refine Ev.step (fun k => by simp only [flagstoneref41_Lower.l0]; rfl) ?_
      rw [e1, w64_id (x := lo + (hi - lo) / 2 + 1) (by omega) (by omega)]
      have hm := hL (lo + (hi - lo) / 2) (by omega) (by omega)
      refine Ev.pos c (Ev.bind (Excluded_is _ _ _ hl) ?_)
      by_cases q : exB (thresholdS level 2) true l l.length (lo + (hi - lo) / 2) = true
      · have := hm.mp q
        exact Ev.pos q (ih _ (by omega) _ _ rfl (by omega) (by omega) (by omega) (by omega))
      · have : ¬ lo + (hi - lo) / 2 < L := fun h => q (hm.mpr h)
        exact Ev.neg q (ih _ (by omega) _ _ rfl (by omega) (by omega) (by omega) (by omega))
    · have : lo = L := by omega
      subst this
      refine Ev.step (f := fun _ => some lo) (fun k => ?_) (Ev.now _)
      simp only [flagstoneref41_Lower.l0]
      rw [if_neg c]
theorem ref_high {l : List S50} {level L : Int} (hl : l.length < 5864062014805) (hL : ∀ e, -1000 ≤ e → e ≤ 1000 → (exB (thresholdS level 2) false l l.length e = true ↔ L < e)) :
    ∀ n lo hi, (hi - lo).toNat = n → -1001 ≤ lo → hi ≤ 1000 → lo ≤ L → L ≤ hi → Ev (fun k => flagstoneref41_Upper.l0 k l level lo hi) L := by
  intro n
  induction n using Nat.strongRecOn with
  | ind n ih =>
    intro lo hi hn h0 h1 h2 h3
    by_cases c : lo < hi
    · have e1 : wrap64 (lo + wrap64 (Int.tdiv (wrap64 (wrap64 (hi - lo) + 1)) 2)) = lo + (hi - lo + 1) / 2 := by
        rw [w64_id (x := hi - lo) (by omega) (by omega), w64_id (x := hi - lo + 1) (by omega) (by omega), Int.tdiv_eq_ediv_of_nonneg (by omega), w64_id (x := (hi - lo + 1) / 2) (by omega) (by omega), w64_id (by omega) (by omega)]
      refine Ev.step (fun k => by simp only [flagstoneref41_Upper.l0]; rfl) ?_
      rw [e1, w64_id (x := lo + (hi - lo + 1) / 2 - 1) (by omega) (by omega)]
      have hm := hL (lo + (hi - lo + 1) / 2) (by omega) (by omega)
      refine Ev.pos c (Ev.bind (Excluded_is _ _ _ hl) ?_)
      by_cases q : exB (thresholdS level 2) false l l.length (lo + (hi - lo + 1) / 2) = true
      · have := hm.mp q
        exact Ev.pos q (ih _ (by omega) _ _ rfl (by omega) (by omega) (by omega) (by omega))
      · have : ¬ L < lo + (hi - lo + 1) / 2 := fun h => q (hm.mpr h)
        exact Ev.neg q (ih _ (by omega) _ _ rfl (by omega) (by omega) (by omega) (by omega))
    · have : lo = L := by omega
      subst this
      refine Ev.step (f := fun _ => some lo) (fun k => ?_) (Ev.now _)
      simp only [flagstoneref41_Upper.l0]
      rw [if_neg c]
theorem refLower_is {l : List S50} (level : Int) (hl : l.length < 5864062014805) : Ev (fun k => flagstoneref41_Lower.f k l level) (lowS (thresholdS level 2) l l.length) := by
  have s := lowS_spec (thr := thresholdS level 2) (l := l) (kk := l.length) (by omega) hl
  unfold flagstoneref41_Lower.f
  exact ref_low hl s.2.2 _ _ _ rfl (by omega) (by omega) s.1 s.2.1
theorem refUpper_is {l : List S50} (level : Int) (hl : l.length < 5864062014805) : Ev (fun k => flagstoneref41_Upper.f k l level) (highS (thresholdS level 2) l l.length) := by
  have s := highS_spec (thr := thresholdS level 2) (l := l) (kk := l.length) (by omega) hl
  unfold flagstoneref41_Upper.f
  exact ref_high hl s.2.2 _ _ _ rfl (by omega) (by omega) s.1 s.2.1
end Go.Proofs.Ytdclcdaoidbgbaa.PA
