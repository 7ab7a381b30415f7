/- Scores with the opposite sign: the wealths of the other side; the ends change places. -/
import Derived.Test.YtdclcdaoidbgbaaQ2
namespace Go.Proofs.Ytdclcdaoidbgbaa.PA
open Go Go.RowKit Go.Proofs.YtdclcdaoidbgbaaW.PrintWords Go.Proofs.YtdclcdaoidbgbaaW.PrintLast Go.Proofs.YtdclcdaoidbgbaaW.PrintMore Go.Proofs.Ytdclcdaoidbgbaa.M
set_option linter.unusedVariables false
set_option linter.unusedSimpArgs false

def flipS (s : S50) : S50 := ⟨-s.f0, s.f1, s.f2⟩
theorem valid_flip (n u r : Int) : validS (-n) u r = validS n u r := by
  unfold validS
  congr 1
  apply propext
  omega
theorem factor_flip (n u r e b : Int) (up : Bool) : factorS (-n) u r e b up = factorS n u r (-e) b (!up) := by
  unfold factorS
  rw [valid_flip]
  by_cases h : validS n u r = true ∧ -1000 ≤ e ∧ e ≤ 1000 ∧ 0 ≤ b ∧ b ≤ 4
  · have h' : validS n u r = true ∧ -1000 ≤ -e ∧ -e ≤ 1000 ∧ 0 ≤ b ∧ b ≤ 4 := ⟨h.1, by omega, by omega, h.2.2.2.1, h.2.2.2.2⟩
    have e1 : b * (1000 * n - u * -e) = -(b * (1000 * -n - u * e)) := by
      rw [← Int.mul_neg]
      congr 1
      rw [Int.mul_neg]
      omega
    rw [if_pos h, if_pos h', e1]
    cases up
    · rw [if_neg (by decide), if_pos (by decide)]
      exact Prod.ext (by show _ - _ = _ + -_; omega) rfl
    · rw [if_pos (by decide), if_neg (by decide)]
      exact Prod.ext (by show _ + _ = _ - -_; omega) rfl
  · have h' : ¬ (validS n u r = true ∧ -1000 ≤ -e ∧ -e ≤ 1000 ∧ 0 ≤ b ∧ b ≤ 4) := fun c => h ⟨c.1, by omega, by omega, c.2.2.2.1, c.2.2.2.2⟩
    rw [if_neg h, if_neg h']
theorem bet_flip (e : Int) (up : Bool) (b w : Int) (s : S50) : betS e up b w (flipS s) = betS (-e) (!up) b w s := by
  unfold betS flipS
  rw [factor_flip]
theorem path_flip (e : Int) (up : Bool) : ∀ (l : List S50) (a b c : Int), pathS e up a b c (l.map flipS) = pathS (-e) (!up) a b c l
  | [], _, _, _ => rfl
  | s :: l, a, b, c => by
    rw [List.map_cons]
    simp only [pathS, bet_flip]
    rw [path_flip e up l]
theorem exB_flip (thr kk e : Int) (up : Bool) (l : List S50) : exB thr up (l.map flipS) kk e = exB thr (!up) l kk (-e) := by
  unfold exB afterS wealthS
  rw [path_flip]
theorem low_flip (thr kk : Int) (l : List S50) : lowS thr (l.map flipS) kk = -highS thr l kk := by
  unfold lowS highS
  have : (fun i => !exB thr true (l.map flipS) kk (i - 1000)) = (fun i => !exB thr false l kk (1000 - i)) := by
    funext i
    rw [exB_flip, show -(i - 1000) = 1000 - i by omega]
    rfl
  rw [this]
  omega
theorem high_flip (thr kk : Int) (l : List S50) : highS thr (l.map flipS) kk = -lowS thr l kk := by
  unfold lowS highS
  have : (fun i => !exB thr false (l.map flipS) kk (1000 - i)) = (fun i => !exB thr true l kk (i - 1000)) := by
    funext i
    rw [exB_flip, show -(1000 - i) = i - 1000 by omega]
    rfl
  rw [this]
  omega
end Go.Proofs.Ytdclcdaoidbgbaa.PA
