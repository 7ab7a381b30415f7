/- Which effects are excluded: half-lines; the ends by the program's search. -/
import Derived.Test.YtdclcdaoidbgbaaQ1
namespace Go.Proofs.Ytdclcdaoidbgbaa.PA
open Go Go.RowKit Go.Proofs.YtdclcdaoidbgbaaW.PrintWords Go.Proofs.YtdclcdaoidbgbaaW.PrintLast Go.Proofs.YtdclcdaoidbgbaaW.PrintMore Go.Proofs.Ytdclcdaoidbgbaa.M
set_option linter.unusedVariables false
set_option linter.unusedSimpArgs false

theorem firstS_spec (t : Int) : ∀ (xs : List Int) (j : Nat), (firstS t j xs = 0 ∧ ∀ i : Nat, i < xs.length → rd xs (i : Int) < t) ∨
    (∃ i : Nat, i < xs.length ∧ firstS t j xs = (j : Int) + i + 1 ∧ rd xs (i : Int) ≥ t ∧ ∀ i' : Nat, i' < i → rd xs (i' : Int) < t)
  | [], j => .inl ⟨rfl, fun i h => by simp at h⟩
  | x :: xs, j => by
    unfold firstS
    by_cases c : x ≥ t
    · rw [if_pos c]
      exact .inr ⟨0, by simp, by simp, c, fun i' h => by omega⟩
    · rw [if_neg c]
      rcases firstS_spec t xs (j + 1) with ⟨h1, h2⟩ | ⟨i, h1, h2, h3, h4⟩
      · refine .inl ⟨h1, fun i hi => ?_⟩
        cases i with
        | zero => show x < t; omega
        | succ i => rw [rd_cons]; exact h2 i (by simpa using hi)
      · refine .inr ⟨i + 1, by simpa using h1, by rw [h2]; omega, by rw [rd_cons]; exact h3, fun i' hi' => ?_⟩
        cases i' with
        | zero => show x < t; omega
        | succ i' => rw [rd_cons]; exact h4 i' (by omega)
/-- Is the effect excluded by the first kk scores. -/
def exB (thr : Int) (up : Bool) (l : List S50) (kk e : Int) : Bool := decide (afterS thr up l e ≤ kk)
theorem exB_iff {thr : Int} {up : Bool} {l : List S50} {kk e : Int} (hk : kk < 9223372036854775807) (hl : l.length < 5864062014805) : exB thr up l kk e = true ↔ ∃ i : Nat, i < l.length ∧ (i : Int) < kk ∧ rd (wealthS e up l) (i : Int) ≥ thr := by
  unfold exB afterS
  rw [decide_eq_true_iff]
  rcases firstS_spec thr (wealthS e up l) 0 with ⟨h1, h2⟩ | ⟨i, h1, h2, h3, h4⟩
  · rw [if_pos h1]
    rw [wealthS_length] at h2
    constructor
    · intro h; omega
    · rintro ⟨i, hi, _, hr⟩
      have := h2 i hi
      omega
  · rw [wealthS_length] at h1
    rw [if_neg (by omega), h2]
    constructor
    · intro h; exact ⟨i, h1, by omega, h3⟩
    · rintro ⟨i', hi', hk', hr⟩
      rcases Nat.lt_or_ge i' i with h | h
      · have := h4 i' h; omega
      · omega
theorem ex_up {thr : Int} {l : List S50} {kk e e' : Int} (hk : kk < 9223372036854775807) (hl : l.length < 5864062014805) (he0 : -1000 ≤ e) (he : e ≤ e') (he1 : e' ≤ 1000) (h : exB thr true l kk e' = true) : exB thr true l kk e = true := by
  obtain ⟨i, h1, h2, h3⟩ := (exB_iff hk hl).mp h
  have := pathS_up he0 he he1 l 4294967296 4294967296 4294967296 4294967296 4294967296 4294967296 (by decide) (by decide) (by decide) (by decide) (by decide) (by decide) (by decide) (by decide) (by decide) i h1
  exact (exB_iff hk hl).mpr ⟨i, h1, h2, Int.le_trans h3 this⟩
theorem ex_down {thr : Int} {l : List S50} {kk e e' : Int} (hk : kk < 9223372036854775807) (hl : l.length < 5864062014805) (he0 : -1000 ≤ e) (he : e ≤ e') (he1 : e' ≤ 1000) (h : exB thr false l kk e = true) : exB thr false l kk e' = true := by
  obtain ⟨i, h1, h2, h3⟩ := (exB_iff hk hl).mp h
  have := pathS_down he0 he he1 l 4294967296 4294967296 4294967296 4294967296 4294967296 4294967296 (by decide) (by decide) (by decide) (by decide) (by decide) (by decide) (by decide) (by decide) (by decide) i h1
  exact (exB_iff hk hl).mpr ⟨i, h1, h2, Int.le_trans h3 this⟩
/-- The ends. -/
def lowS (thr : Int) (l : List S50) (kk : Int) : Int := srchS (fun i => !exB thr true l kk (i - 1000)) 16 0 2001 - 1000
def highS (thr : Int) (l : List S50) (kk : Int) : Int := 1000 - srchS (fun i => !exB thr false l kk (1000 - i)) 16 0 2001
theorem lowS_spec {thr : Int} {l : List S50} {kk : Int} (hk : kk < 9223372036854775807) (hl : l.length < 5864062014805) : -1000 ≤ lowS thr l kk ∧ lowS thr l kk ≤ 1001 ∧ ∀ e, -1000 ≤ e → e ≤ 1000 → (exB thr true l kk e = true ↔ e < lowS thr l kk) := by
  obtain ⟨s1, s2, s3, s4⟩ := srchS_spec (p := fun i => !exB thr true l kk (i - 1000)) 16 0 2001 (by decide) (by decide) (fun a b h1 h2 h3 h => by
    simp only [Bool.not_eq_true'] at h ⊢
    cases q : exB thr true l kk (b - 1000) with
    | false => rfl
    | true => rw [ex_up (e := a - 1000) (e' := b - 1000) hk hl (by omega) (by omega) (by omega) q] at h; exact h)
  unfold lowS
  generalize srchS (fun i => !exB thr true l kk (i - 1000)) 16 0 2001 = r at *
  refine ⟨by omega, by omega, fun e h0 h1 => ?_⟩
  constructor
  · intro h
    rcases Int.lt_or_le (e + 1000) r with c | c
    · omega
    · have := s4 (e + 1000) c (by omega)
      simp only [show e + 1000 - 1000 = e by omega, h] at this
      cases this
  · intro h
    have := s3 (e + 1000) (by omega) (by omega)
    simpa [show e + 1000 - 1000 = e by omega] using this
theorem highS_spec {thr : Int} {l : List S50} {kk : Int} (hk : kk < 9223372036854775807) (hl : l.length < 5864062014805) : -1001 ≤ highS thr l kk ∧ highS thr l kk ≤ 1000 ∧ ∀ e, -1000 ≤ e → e ≤ 1000 → (exB thr false l kk e = true ↔ highS thr l kk < e) := by
  obtain ⟨s1, s2, s3, s4⟩ := srchS_spec (p := fun i => !exB thr false l kk (1000 - i)) 16 0 2001 (by decide) (by decide) (fun a b h1 h2 h3 h => by
    simp only [Bool.not_eq_true'] at h ⊢
    cases q : exB thr false l kk (1000 - b) with
    | false => rfl
    | true => rw [ex_down (e := 1000 - b) (e' := 1000 - a) hk hl (by omega) (by omega) (by omega) q] at h; exact h)
  unfold highS
  generalize srchS (fun i => !exB thr false l kk (1000 - i)) 16 0 2001 = r at *
  refine ⟨by omega, by omega, fun e h0 h1 => ?_⟩
  constructor
  · intro h
    rcases Int.lt_or_le (1000 - e) r with c | c
    · omega
    · have := s4 (1000 - e) c (by omega)
      simp only [show 1000 - (1000 - e) = e by omega, h] at this
      cases this
  · intro h
    have := s3 (1000 - e) (by omega) (by omega)
    simpa [show 1000 - (1000 - e) = e by omega] using this
theorem end_is_up {l : List S50} (thr kk : Int) (hk : kk < 9223372036854775807) (hl : l.length < 5864062014805) : Ev (fun k => end_.f k l thr true kk) (lowS thr l kk) := by
  have s := lowS_spec (thr := thr) (l := l) hk hl
  unfold end_.f
  refine Ev.bind (srch_is (p := fun i => !exB thr true l kk (i - 1000)) 16 0 2001 (by decide) (fun i h1 h2 => ?_)) ?_
  · unfold open_.f
    rw [if_pos rfl, w64_id (x := i - 1000) (by omega) (by omega), Int.one_mul, w64_id (by omega) (by omega)]
    exact Ev.bind (known_is thr true (i - 1000) hl) (Ev.now _)
  · rw [if_pos rfl, Int.one_mul]
    unfold lowS at s ⊢
    rw [w64_id (x := _ - 1000) (by omega) (by omega), w64_id (by omega) (by omega)]
    exact Ev.now _
theorem end_is_down {l : List S50} (thr kk : Int) (hk : kk < 9223372036854775807) (hl : l.length < 5864062014805) : Ev (fun k => end_.f k l thr false kk) (highS thr l kk) := by
  have s := highS_spec (thr := thr) (l := l) hk hl
  unfold end_.f
  refine Ev.bind (srch_is (p := fun i => !exB thr false l kk (1000 - i)) 16 0 2001 (by decide) (fun i h1 h2 => ?_)) ?_
  · unfold open_.f
    rw [if_neg (by decide), w64_id (x := i - 1000) (by omega) (by omega), show -1 * (i - 1000) = 1000 - i by omega, w64_id (by omega) (by omega)]
    exact Ev.bind (known_is thr false (1000 - i) hl) (Ev.now _)
  · rw [if_neg (by decide)]
    unfold highS at s ⊢
    rw [w64_id (x := _ - 1000) (by omega) (by omega), w64_id (by omega) (by omega), Int.neg_mul, Int.one_mul, Int.neg_sub]
    exact Ev.now _
theorem Lower_is {l : List S50} (level : Int) (hl : l.length < 5864062014805) : Ev (fun k => sequence_Lower.f k l level) (lowS (thresholdS level 2) l l.length) := by
  unfold sequence_Lower.f
  exact Ev.bind (wealth_Threshold_is _ _) (end_is_up _ _ (by omega) hl)
theorem Upper_is {l : List S50} (level : Int) (hl : l.length < 5864062014805) : Ev (fun k => sequence_Upper.f k l level) (highS (thresholdS level 2) l l.length) := by
  unfold sequence_Upper.f
  exact Ev.bind (wealth_Threshold_is _ _) (end_is_down _ _ (by omega) hl)
end Go.Proofs.Ytdclcdaoidbgbaa.PA
