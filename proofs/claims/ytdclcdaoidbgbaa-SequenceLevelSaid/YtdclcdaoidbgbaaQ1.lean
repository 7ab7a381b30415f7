/- The ends of a confidence interval: where the excluded effects end, by the program's search and by the document's. -/
import Derived.Test.YtdclcdaoidbgbaaH4
import Derived.Test.YtdclcdaoidbgbaaM5
import Derived.Test.YtdclcdaoidbgbaaP3
namespace Go.Proofs.Ytdclcdaoidbgbaa.PA
open Go Go.RowKit Go.Proofs.YtdclcdaoidbgbaaW.PrintWords Go.Proofs.YtdclcdaoidbgbaaW.PrintLast Go.Proofs.YtdclcdaoidbgbaaW.PrintMore Go.Proofs.Ytdclcdaoidbgbaa.M
set_option linter.unusedVariables false
set_option linter.unusedSimpArgs false

/-- The wealths from the start. -/
def wealthS (e : Int) (up : Bool) (l : List S50) : List Int := pathS e up 4294967296 4294967296 4294967296 l
theorem wealthS_length (e : Int) (up : Bool) (l : List S50) : (wealthS e up l).length = l.length := pathS_length _ _ _ _ _ _
/-- After how many scores an effect is excluded. -/
def afterS (thr : Int) (up : Bool) (l : List S50) (e : Int) : Int := if firstS thr 0 (wealthS e up l) = 0 then 9223372036854775807 else firstS thr 0 (wealthS e up l)
theorem known_is {l : List S50} (thr : Int) (up : Bool) (e : Int) (hm : l.length < 5864062014805) : Ev (fun k => known.f k l thr up e) (afterS thr up l e) := by
  unfold known.f
  refine Ev.bind (wealth_Path_is _ _ _ hm) (Ev.bind (wealth_First_is _ _ (by rw [pathS_length]; omega)) (Ev.now _))
/-- The search, told what is true. -/
def srchS (p : Int → Bool) : Nat → Int → Int → Int
  | 0, lo, _ => lo
  | fuel + 1, lo, hi => if lo < hi then (if p ((lo + hi) / 2) = true then srchS p fuel lo ((lo + hi) / 2) else srchS p fuel ((lo + hi) / 2 + 1) hi) else lo
theorem srch_is {g : Nat → Int → Option Bool} {p : Int → Bool} : ∀ (fuel : Nat) (lo hi : Int), hi - lo < 2 ^ fuel → (∀ i, lo ≤ i → i < hi → Ev (fun k => g k i) (p i)) → Ev (fun k => srch.f (g k) fuel lo hi) (srchS p fuel lo hi)
  | 0, lo, hi, h, hg => by
    refine Ev.step (f := fun _ => some lo) (fun k => ?_) (Ev.now _)
    unfold srch.f
    rw [if_neg (by simp at h; omega)]
  | fuel + 1, lo, hi, h, hg => by
    have h2 : (2 : Int) ^ (fuel + 1) = 2 * 2 ^ fuel := by rw [Int.pow_succ]; omega
    unfold srch.f srchS
    by_cases c : lo < hi
    · rw [if_pos c]
      refine Ev.pos c (Ev.bind (hg _ (by omega) (by omega)) ?_)
      by_cases d : p ((lo + hi) / 2) = true
      · rw [if_pos d]
        exact Ev.pos d (srch_is fuel _ _ (by omega) (fun i h1 h2 => hg i h1 (by omega)))
      · rw [if_neg d]
        exact Ev.neg d (srch_is fuel _ _ (by omega) (fun i h1 h2 => hg i (by omega) h2))
    · rw [if_neg c]
      exact Ev.neg c (Ev.now _)
theorem srchS_spec {p : Int → Bool} : ∀ (fuel : Nat) (lo hi : Int), lo ≤ hi → hi - lo < 2 ^ fuel → (∀ a b, lo ≤ a → a ≤ b → b < hi → p a = true → p b = true) →
    lo ≤ srchS p fuel lo hi ∧ srchS p fuel lo hi ≤ hi ∧ (∀ i, lo ≤ i → i < srchS p fuel lo hi → p i = false) ∧ (∀ i, srchS p fuel lo hi ≤ i → i < hi → p i = true)
  | 0, lo, hi, hl, h, _ => by
    have : hi = lo := by simp at h; omega
    subst this
    unfold srchS
    exact ⟨Int.le_refl _, Int.le_refl _, fun i h1 h2 => by omega, fun i h1 h2 => by omega⟩
  | fuel + 1, lo, hi, hl, h, hm => by
    have h2 : (2 : Int) ^ (fuel + 1) = 2 * 2 ^ fuel := by rw [Int.pow_succ]; omega
    unfold srchS
    by_cases c : lo < hi
    · rw [if_pos c]
      by_cases d : p ((lo + hi) / 2) = true
      · rw [if_pos d]
        obtain ⟨s1, s2, s3, s4⟩ := srchS_spec fuel lo ((lo + hi) / 2) (by omega) (by omega) (fun a b h1 h2 h3 => hm a b h1 h2 (by omega))
        refine ⟨s1, by omega, s3, fun i h1 h2 => ?_⟩
        by_cases e : i < (lo + hi) / 2
        · exact s4 i h1 e
        · exact hm ((lo + hi) / 2) i (by omega) (by omega) h2 d
      · rw [if_neg d]
        obtain ⟨s1, s2, s3, s4⟩ := srchS_spec fuel ((lo + hi) / 2 + 1) hi (by omega) (by omega) (fun a b h1 h2 h3 => hm a b (by omega) h2 h3)
        refine ⟨by omega, s2, fun i h1 h2 => ?_, s4⟩
        by_cases e : (lo + hi) / 2 < i
        · exact s3 i (by omega) h2
        · cases q : p i with
          | false => rfl
          | true => exact absurd (hm i ((lo + hi) / 2) h1 (by omega) (by omega) q) d
    · rw [if_neg c]
      exact ⟨Int.le_refl _, hl, fun i h1 h2 => by omega, fun i h1 h2 => by omega⟩
end Go.Proofs.Ytdclcdaoidbgbaa.PA
