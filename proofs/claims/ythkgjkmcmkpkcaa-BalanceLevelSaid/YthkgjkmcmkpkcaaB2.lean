/- The supermartingale inequality of a step of the sample-ratio test, in plain whole numbers. -/
import Derived.Test.YthkgjkmcmkpkcaaB1
namespace Go.Proofs.Ythkgjkmcmkpkcaa.PA
open Go Go.RowKit Go.Proofs.YthkgjkmcmkpkcaaW.PrintWords Go.Proofs.YthkgjkmcmkpkcaaW.PrintLast Go.Proofs.YthkgjkmcmkpkcaaW.PrintMore Go.Proofs.Ythkgjkmcmkpkcaa.M

/-- Weights times values, summed up over the first arms. -/
def sumW (ws : List Int) (f : Nat → Int) : Nat → Int
  | 0 => 0
  | i + 1 => sumW ws f i + rd ws (i : Int) * f i
theorem sumW_const (ws : List Int) (x : Int) : ∀ i, sumW ws (fun _ => x) i = pre ws i * x
  | 0 => by simp [sumW, pre]
  | i + 1 => by simp only [sumW, pre, sumW_const ws x i]; grind
theorem sumW_split (ws : List Int) (f : Nat → Int) (m : Int) : ∀ i, m * sumW ws (fun j => f j / m) i + sumW ws (fun j => f j % m) i = sumW ws f i
  | 0 => by simp [sumW]
  | i + 1 => by
    have h := sumW_split ws f m i
    have e := Int.mul_ediv_add_emod (f i) m
    simp only [sumW]
    rw [← h]
    conv => rhs; rw [← e]
    grind
theorem sumW_mono {ws : List Int} {f g : Nat → Int} : ∀ i : Nat, (∀ j : Nat, j < i → 0 ≤ rd ws (j : Int)) → (∀ j : Nat, j < i → f j ≤ g j) → sumW ws f i ≤ sumW ws g i
  | 0, _, _ => by simp [sumW]
  | i + 1, h0, h => by
    have h1 := sumW_mono i (fun j hj => h0 j (by omega)) (fun j hj => h j (by omega))
    have h2 := Int.mul_le_mul_of_nonneg_left (h i (by omega)) (h0 i (by omega))
    simp only [sumW]
    omega
theorem sumW_mul (ws : List Int) (f : Nat → Int) (m : Int) : ∀ i, sumW ws (fun j => f j * m) i = sumW ws f i * m
  | 0 => by simp [sumW]
  | i + 1 => by simp only [sumW, sumW_mul ws f m i]; grind
theorem growQ_le {w a d : Int} (hd : 0 < d) : growQ w a d * d ≤ w * a := by
  have h := Int.ediv_mul_le (w * a) (b := d) (by omega)
  unfold growQ
  by_cases c : w * a / d ≤ 2305843009213693952
  · rw [if_pos c]; exact h
  · rw [if_neg c]
    have := Int.mul_le_mul_of_nonneg_right (show (2305843009213693952 : Int) ≤ w * a / d by omega) (show 0 ≤ d by omega)
    omega

/-- What is asked of a step's arguments, whichever the arm. -/
structure Fit (w : Int) (cs ws : List Int) : Prop where
  w0 : 0 ≤ w
  w1 : w ≤ 2305843009213693952
  len : cs.length = ws.length
  one : 1 ≤ cs.length
  most : cs.length ≤ 8
  good : goods cs ws = true
theorem Fit.ok {w : Int} {cs ws : List Int} (h : Fit w cs ws) {j : Nat} (hj : j < cs.length) : okS w cs ws ((j : Int) + 1) = true :=
  okS_iff.mpr ⟨⟨h.w0, h.w1, h.len, h.one, h.most, by omega, by omega⟩, h.good⟩
theorem Fit.step {w : Int} {cs ws : List Int} (h : Fit w cs ws) {j : Nat} (hj : j < cs.length) :
    stepS w cs ws ((j : Int) + 1) = (growQ w ((rd cs (j : Int) + 1) * pre ws ws.length) ((pre cs cs.length + cs.length) * rd ws (j : Int)), cs.set j (rd cs (j : Int) + 1)) := by
  unfold stepS
  rw [if_pos (h.ok hj), show (j : Int) + 1 - 1 = (j : Int) by omega, show ((j : Int)).toNat = j by omega]
/-- The sum over the arms of weight times the new wealth is at most the sum of the weights times the wealth before. -/
theorem step_fair {w : Int} {cs ws : List Int} (h : Fit w cs ws) : sumW ws (fun j => (stepS w cs ws ((j : Int) + 1)).1) cs.length ≤ pre ws ws.length * w := by
  have hp := pre_counts h.good h.len cs.length (Nat.le_refl _)
  have hone := h.one
  have key : ∀ i : Nat, i ≤ cs.length → (pre cs cs.length + cs.length) * sumW ws (fun j => (stepS w cs ws ((j : Int) + 1)).1) i ≤ (pre cs i + i) * (w * pre ws ws.length) := by
    intro i
    induction i with
    | zero => intro _; simp [sumW, pre]
    | succ i ih =>
      intro hi
      have h1 := ih (by omega)
      have hg := goods_at h.good i (by omega) (by have := h.len; omega)
      have hd : 0 < (pre cs cs.length + cs.length) * rd ws (i : Int) := Int.mul_pos (by omega) (by omega)
      have h2 := growQ_le (w := w) (a := (rd cs (i : Int) + 1) * pre ws ws.length) hd
      have e := congrArg Prod.fst (h.step (j := i) (by omega))
      simp only at e
      simp only [sumW, pre, e]
      generalize growQ w ((rd cs (i : Int) + 1) * pre ws ws.length) ((pre cs cs.length + cs.length) * rd ws (i : Int)) = g at *
      generalize sumW ws (fun j => (stepS w cs ws ((j : Int) + 1)).1) i = S at *
      have e1 : (pre cs cs.length + (cs.length : Int)) * (S + rd ws (i : Int) * g) = (pre cs cs.length + (cs.length : Int)) * S + g * ((pre cs cs.length + (cs.length : Int)) * rd ws (i : Int)) := by grind
      have e2 : (pre cs i + rd cs (i : Int) + ((i + 1 : Nat) : Int)) * (w * pre ws ws.length) = (pre cs i + (i : Int)) * (w * pre ws ws.length) + w * ((rd cs (i : Int) + 1) * pre ws ws.length) := by
        rw [show ((i + 1 : Nat) : Int) = (i : Int) + 1 by omega]; grind
      rw [e1, e2]
      omega
  have h1 := key cs.length (Nat.le_refl _)
  have hpos : 0 < pre cs cs.length + (cs.length : Int) := by omega
  have h2 := Int.le_of_mul_le_mul_left h1 hpos
  rw [Int.mul_comm w] at h2
  exact h2
end Go.Proofs.Ythkgjkmcmkpkcaa.PA
