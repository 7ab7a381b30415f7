/- The supermartingale inequality of a bet, in plain whole numbers. -/
import Derived.Test.YtafcnpfhihnmgaaP2
namespace Go.Proofs.Ytafcnpfhihnmgaa.PA
open Go Go.RowKit Go.Proofs.YtafcnpfhihnmgaaW.PrintWords Go.Proofs.YtafcnpfhihnmgaaW.PrintLast Go.Proofs.YtafcnpfhihnmgaaW.PrintMore Go.Proofs.Ytafcnpfhihnmgaa.M
set_option linter.unusedVariables false
set_option linter.unusedSimpArgs false

/-- The sum over the first i places. -/
def sumN (f : Nat → Int) : Nat → Int
  | 0 => 0
  | i + 1 => sumN f i + f i
theorem sumN_congr {f g : Nat → Int} : ∀ i : Nat, (∀ j : Nat, j < i → f j = g j) → sumN f i = sumN g i
  | 0, _ => rfl
  | i + 1, h => by simp only [sumN]; rw [sumN_congr i (fun j hj => h j (by omega)), h i (by omega)]
theorem sumN_mono {f g : Nat → Int} : ∀ i : Nat, (∀ j : Nat, j < i → f j ≤ g j) → sumN f i ≤ sumN g i
  | 0, _ => Int.le_refl _
  | i + 1, h => by
    have := sumN_mono i (fun j hj => h j (by omega))
    have := h i (by omega)
    simp only [sumN]; omega
theorem sumN_add (f g : Nat → Int) : ∀ i : Nat, sumN (fun j => f j + g j) i = sumN f i + sumN g i
  | 0 => rfl
  | i + 1 => by simp only [sumN]; rw [sumN_add f g i]; omega
theorem sumN_mul (c : Int) (f : Nat → Int) : ∀ i : Nat, sumN (fun j => c * f j) i = c * sumN f i
  | 0 => by simp [sumN]
  | i + 1 => by simp only [sumN]; rw [sumN_mul c f i, Int.mul_add]
theorem sumN_range {f : Nat → Int} {a b : Int} : ∀ i : Nat, (∀ j : Nat, j < i → a ≤ f j ∧ f j ≤ b) → (i : Int) * a ≤ sumN f i ∧ sumN f i ≤ (i : Int) * b
  | 0, _ => by simp [sumN]
  | i + 1, h => by
    have h1 := sumN_range i (fun j hj => h j (by omega))
    have h2 := h i (by omega)
    simp only [sumN]
    rw [show ((i + 1 : Nat) : Int) = (i : Int) + 1 by omega, Int.add_mul, Int.add_mul, Int.one_mul, Int.one_mul]
    omega
theorem sumN_digits (w g : Nat → Int) (m : Int) (i : Nat) : m * sumN (fun j => w j * (g j / m)) i + sumN (fun j => w j * (g j % m)) i = sumN (fun j => w j * g j) i := by
  rw [← sumN_mul, ← sumN_add]
  refine sumN_congr i (fun j _ => ?_)
  have e := Int.mul_ediv_add_emod (g j) m
  calc m * (w j * (g j / m)) + w j * (g j % m) = w j * (m * (g j / m) + g j % m) := by grind
    _ = w j * g j := by rw [e]
theorem growS_le {w num den : Int} (hd : 0 < den) (hn : 0 ≤ w * num) : growS w num den * den ≤ w * num := by
  have h := Int.ediv_mul_le (w * num) (b := den) (by omega)
  unfold growS
  split
  · omega
  · split
    · exact h
    · have := Int.mul_le_mul_of_nonneg_right (show (2305843009213693952 : Int) ≤ w * num / den by omega) (show 0 ≤ den by omega)
      omega
/-- The weighted sum of the wealths behind the step is at most the wealth before, times the sum of the weights. -/
theorem wealth_fair {x u r e b : Int} {up : Bool} {n : Nat} {wt nm : Nat → Int} (hx : 0 ≤ x) (hu : 1 ≤ u) (hr : 1 ≤ r) (hr1 : u + r ≤ 562949953421312) (he0 : -1000 ≤ e) (he1 : e ≤ 1000) (hb0 : 0 ≤ b) (hb1 : b ≤ 4)
    (hw : ∀ j : Nat, j < n → 0 ≤ wt j) (hn : ∀ j : Nat, j < n → -r ≤ nm j ∧ nm j ≤ r)
    (hs : if up = true then 1000 * sumN (fun j => wt j * nm j) n ≤ u * e * sumN wt n else u * e * sumN wt n ≤ 1000 * sumN (fun j => wt j * nm j) n) :
    sumN (fun j => wt j * growS x (factorS (nm j) u (u + r) e b up).1 (factorS (nm j) u (u + r) e b up).2) n ≤ x * sumN wt n := by
  have hv : ∀ j : Nat, j < n → validS (nm j) u (u + r) = true := fun j hj => validS_iff.mpr (by have := hn j hj; omega)
  have hfac : ∀ j : Nat, j < n → factorS (nm j) u (u + r) e b up = (8000 * (u + r) + (if up = true then b * (1000 * nm j - u * e) else -(b * (1000 * nm j - u * e))), 8000 * (u + r)) := by
    intro j hj
    unfold factorS
    rw [if_pos ⟨hv j hj, he0, he1, hb0, hb1⟩]
    split <;> rfl
  have hpos : ∀ j : Nat, j < n → 0 ≤ 8000 * (u + r) + (if up = true then b * (1000 * nm j - u * e) else -(b * (1000 * nm j - u * e))) := by
    intro j hj
    have g := gain_bound (hv j hj) he0 he1 hb0 hb1
    split <;> omega
  have h1 : 8000 * (u + r) * sumN (fun j => wt j * growS x (factorS (nm j) u (u + r) e b up).1 (factorS (nm j) u (u + r) e b up).2) n ≤ sumN (fun j => x * (wt j * (8000 * (u + r) + (if up = true then b * (1000 * nm j - u * e) else -(b * (1000 * nm j - u * e)))))) n := by
    rw [← sumN_mul]
    refine sumN_mono n (fun j hj => ?_)
    rw [hfac j hj]
    simp only
    have p := hpos j hj
    generalize (8000 * (u + r) + (if up = true then b * (1000 * nm j - u * e) else -(b * (1000 * nm j - u * e)))) = f at *
    have g := growS_le (w := x) (num := f) (den := 8000 * (u + r)) (by omega) (Int.mul_nonneg hx p)
    have k := Int.mul_le_mul_of_nonneg_left g (hw j hj)
    calc 8000 * (u + r) * (wt j * growS x f (8000 * (u + r))) = wt j * (growS x f (8000 * (u + r)) * (8000 * (u + r))) := by grind
      _ ≤ wt j * (x * f) := k
      _ = x * (wt j * f) := by grind
  rw [sumN_mul] at h1
  have h2 : sumN (fun j => wt j * (8000 * (u + r) + (if up = true then b * (1000 * nm j - u * e) else -(b * (1000 * nm j - u * e))))) n ≤ 8000 * (u + r) * sumN wt n := by
    have e1 : sumN (fun j => wt j * (8000 * (u + r) + (if up = true then b * (1000 * nm j - u * e) else -(b * (1000 * nm j - u * e))))) n = 8000 * (u + r) * sumN wt n + (if up = true then b * (1000 * sumN (fun j => wt j * nm j) n - u * e * sumN wt n) else -(b * (1000 * sumN (fun j => wt j * nm j) n - u * e * sumN wt n))) := by
      cases up with
      | true =>
        simp only [if_true]
        rw [sumN_congr (g := fun j => 8000 * (u + r) * wt j + (1000 * b * (wt j * nm j) + (-(b * u * e)) * wt j)) n (fun j _ => by grind), sumN_add, sumN_add, sumN_mul, sumN_mul, sumN_mul]
        grind
      | false =>
        simp only [Bool.false_eq_true, if_false]
        rw [sumN_congr (g := fun j => 8000 * (u + r) * wt j + (-(1000 * b) * (wt j * nm j) + (b * u * e) * wt j)) n (fun j _ => by grind), sumN_add, sumN_add, sumN_mul, sumN_mul, sumN_mul]
        grind
    rw [e1]
    cases up with
    | true =>
      simp only [if_true] at hs ⊢
      have := Int.mul_nonneg hb0 (show 0 ≤ u * e * sumN wt n - 1000 * sumN (fun j => wt j * nm j) n by omega)
      rw [Int.mul_sub] at this ⊢
      omega
    | false =>
      simp only [Bool.false_eq_true, if_false] at hs ⊢
      have := Int.mul_nonneg hb0 (show 0 ≤ 1000 * sumN (fun j => wt j * nm j) n - u * e * sumN wt n by omega)
      omega
  have h3 := Int.mul_le_mul_of_nonneg_left h2 hx
  have h4 : 8000 * (u + r) * sumN (fun j => wt j * growS x (factorS (nm j) u (u + r) e b up).1 (factorS (nm j) u (u + r) e b up).2) n ≤ 8000 * (u + r) * (x * sumN wt n) := by
    refine Int.le_trans h1 (Int.le_trans h3 (Int.le_of_eq ?_))
    grind
  exact Int.le_of_mul_le_mul_left h4 (by omega)
theorem and30 {x : Int} (h0 : 0 ≤ x) (h1 : x < 9223372036854775808) : Go.bits .and .i64 x 1073741823 = x % 1073741824 :=
  bits_mask .i64 63 (by decide) (fun n h0 h1 => by
    have h1 : n < 9223372036854775808 := by simpa using h1
    rw [IntKind.wrap_i64]; omega) 30 (by decide) x h0 (by simpa using h1)
end Go.Proofs.Ytafcnpfhihnmgaa.PA
