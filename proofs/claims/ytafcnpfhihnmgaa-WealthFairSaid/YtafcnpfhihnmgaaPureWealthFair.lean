/- The supermartingale inequality of one step, exactly, as the statement sums it up: in two digits to the base 2^30. -/
import Derived.Test.YtafcnpfhihnmgaaPA6
import Derived.Test.YtafcnpfhihnmgaaF1
import Derived.Test.YtafcnpfhihnmgaaP1
import Derived.Test.YtafcnpfhihnmgaaM7w
namespace Go.Proofs.Ytafcnpfhihnmgaa.Pure
open Go Go.RowKit Go.Proofs.Ytafcnpfhihnmgaa.PA Go.Proofs.YtafcnpfhihnmgaaW.PrintWords Go.Proofs.YtafcnpfhihnmgaaW.PrintLast Go.Proofs.YtafcnpfhihnmgaaW.PrintMore Go.Proofs.Ytafcnpfhihnmgaa.M
set_option linter.unusedVariables false
set_option linter.unusedSimpArgs false

/-- Division that rounds down. -/
theorem floor_is {a d : Int} (hd : 0 < d) (h0 : -4611686018427387904 ≤ a) (h1 : a ≤ 4611686018427387904) : flagstonelaw40_floor.f a d = some (a / d) := by
  unfold flagstonelaw40_floor.f
  rw [if_neg (by omega)]
  have hq : Int.tdiv a d * d + Int.tmod a d = a := Int.tdiv_mul_add_tmod a d
  have m1 := Int.tmod_lt_of_pos a hd
  have hm0 : -d < Int.tmod a d := (tmod_small a d hd).1
  have big : -4611686018427387904 ≤ Int.tdiv a d ∧ Int.tdiv a d ≤ 4611686018427387904 := by
    have := Int.natAbs_tdiv_le_natAbs a d
    omega
  by_cases c : Int.tmod a d < 0
  · rw [if_pos c]
    have e : a / d = Int.tdiv a d - 1 := by
      have : a = (Int.tmod a d + d) + d * (Int.tdiv a d - 1) := by grind
      rw [this, Int.add_mul_ediv_left _ _ (by omega), Int.ediv_eq_zero_of_lt (by omega) (by omega), ← this]
      omega
    rw [e, w64_id (x := Int.tdiv a d) (by omega) (by omega), w64_id (by omega) (by omega)]
  · rw [if_neg c]
    have e : a / d = Int.tdiv a d := by
      have : a = Int.tmod a d + d * Int.tdiv a d := by grind
      rw [this, Int.add_mul_ediv_left _ _ (by omega), Int.ediv_eq_zero_of_lt (by omega) (by omega), ← this]
      omega
    rw [e, w64_id (by omega) (by omega)]
theorem mul_range {a b A B : Int} (a0 : 0 ≤ a) (a1 : a ≤ A) (b0 : -B ≤ b) (b1 : b ≤ B) : -(A * B) ≤ a * b ∧ a * b ≤ A * B := by
  have hB : 0 ≤ B := by omega
  have k1 : a * b ≤ a * B := Int.mul_le_mul_of_nonneg_left b1 a0
  have k2 : a * (-B) ≤ a * b := Int.mul_le_mul_of_nonneg_left b0 a0
  have k3 : a * B ≤ A * B := Int.mul_le_mul_of_nonneg_right a1 hB
  rw [Int.mul_neg] at k2
  omega
/-- An outcome's weight and number. -/
def wtO (l : List S38) (j : Nat) : Int := 1 + (rd_T38 l (j : Int)).f1
def nmO (r : Int) (l : List S38) (j : Nat) : Int := (rd_T38 l (j : Int)).f0 % (2 * r + 1) - r
structure OkO (l : List S38) (u r : Int) : Prop where
  n0 : 1 ≤ l.length
  n1 : l.length ≤ 12
  u0 : 1 ≤ u
  u1 : u ≤ 30
  r0 : 1 ≤ r
  r1 : r ≤ 256
  it : ∀ j : Nat, j < l.length → 0 ≤ (rd_T38 l (j : Int)).f0 ∧ (rd_T38 l (j : Int)).f0 ≤ 255 ∧ 0 ≤ (rd_T38 l (j : Int)).f1 ∧ (rd_T38 l (j : Int)).f1 ≤ 255
theorem OkO.wt {l : List S38} {u r : Int} (h : OkO l u r) (j : Nat) (hj : j < l.length) : 1 ≤ wtO l j ∧ wtO l j ≤ 256 := by
  have := h.it j hj
  unfold wtO; omega
theorem OkO.nm {l : List S38} {u r : Int} (h : OkO l u r) (j : Nat) (hj : j < l.length) : -r ≤ nmO r l j ∧ nmO r l j ≤ r := by
  have a := h.r0
  have h1 := Int.emod_nonneg (rd_T38 l (j : Int)).f0 (show 2 * r + 1 ≠ 0 by omega)
  have h2 := Int.emod_lt_of_pos (rd_T38 l (j : Int)).f0 (show 0 < 2 * r + 1 by omega)
  unfold nmO; omega
theorem OkO.wtE {l : List S38} {u r : Int} (h : OkO l u r) (j : Nat) (hj : j < l.length) : wrap64 (1 + wrap64 ((rd_T38 l (j : Int)).f1)) = wtO l j := by
  have := h.it j hj
  unfold wtO
  rw [w64_id (x := (rd_T38 l (j : Int)).f1) (by omega) (by omega), w64_id (by omega) (by omega)]
theorem OkO.rE {l : List S38} {u r : Int} (h : OkO l u r) : wrap64 (wrap64 (2 * r) + 1) = 2 * r + 1 := by
  have a := h.r0; have b := h.r1
  rw [w64_id (x := 2 * r) (by omega) (by omega), w64_id (by omega) (by omega)]
theorem OkO.nmE {l : List S38} {u r : Int} (h : OkO l u r) (j : Nat) (hj : j < l.length) : wrap64 ((Int.tmod (wrap64 ((rd_T38 l (j : Int)).f0)) (wrap64 (wrap64 (2 * r) + 1))) - r) = nmO r l j := by
  have := h.it j hj
  have a := h.r1
  have n := h.nm j hj
  rw [h.rE, w64_id (x := (rd_T38 l (j : Int)).f0) (by omega) (by omega), Int.tmod_eq_emod_of_nonneg (by omega)]
  unfold nmO at *
  exact w64_id (by omega) (by omega)

theorem fair_l2 {l : List S38} {u r x e a5 a6 b20 b21 i23 : Int} {up : Bool} (h : OkO l u r) (x0 : 0 ≤ x) (x1 : x ≤ 2305843009213693952)
    (key : sumN (fun j => wtO l j * growS x (factorS (nmO r l j) u (u + r) e (Int.tmod (wrap64 a5) 5) up).1 (factorS (nmO r l j) u (u + r) e (Int.tmod (wrap64 a5) 5) up).2) l.length ≤ x * sumN (wtO l) l.length)
    (done : Ev (fun k => flagstonelaw40_WealthFair.l1 k l a5 a6 u r (sumN (wtO l) l.length) b20 b21 x (wrap64 (i23 + 1))) true) : ∀ n i : Nat, l.length - i = n → i ≤ l.length →
    Ev (fun k => flagstonelaw40_WealthFair.l2 k l a5 a6 u r (sumN (wtO l) l.length) b20 b21 x i23 e up
      (sumN (fun j => wtO l j * (growS x (factorS (nmO r l j) u (u + r) e (Int.tmod (wrap64 a5) 5) up).1 (factorS (nmO r l j) u (u + r) e (Int.tmod (wrap64 a5) 5) up).2 / 1073741824)) i)
      (sumN (fun j => wtO l j * (growS x (factorS (nmO r l j) u (u + r) e (Int.tmod (wrap64 a5) 5) up).1 (factorS (nmO r l j) u (u + r) e (Int.tmod (wrap64 a5) 5) up).2 % 1073741824)) i) (i : Int)) true := by
  have hn1 := h.n1
  have hW := sumN_range (f := wtO l) (a := 1) (b := 256) l.length (fun j hj => h.wt j hj)
  have r1 := fun i (hi : i ≤ l.length) => sumN_range (f := fun j => wtO l j * (growS x (factorS (nmO r l j) u (u + r) e (Int.tmod (wrap64 a5) 5) up).1 (factorS (nmO r l j) u (u + r) e (Int.tmod (wrap64 a5) 5) up).2 / 1073741824)) (a := 0) (b := 549755813888) i (fun j hj => by
    have g := growS_range x (factorS (nmO r l j) u (u + r) e (Int.tmod (wrap64 a5) 5) up).1 (factorS (nmO r l j) u (u + r) e (Int.tmod (wrap64 a5) 5) up).2
    have w := h.wt j (by omega)
    have q0 : 0 ≤ growS x (factorS (nmO r l j) u (u + r) e (Int.tmod (wrap64 a5) 5) up).1 (factorS (nmO r l j) u (u + r) e (Int.tmod (wrap64 a5) 5) up).2 / 1073741824 ∧ growS x (factorS (nmO r l j) u (u + r) e (Int.tmod (wrap64 a5) 5) up).1 (factorS (nmO r l j) u (u + r) e (Int.tmod (wrap64 a5) 5) up).2 / 1073741824 ≤ 2147483648 := by omega
    have m := mul_le (show 0 ≤ wtO l j by omega) q0.1 w.2 q0.2
    omega)
  have r2 := fun i (hi : i ≤ l.length) => sumN_range (f := fun j => wtO l j * (growS x (factorS (nmO r l j) u (u + r) e (Int.tmod (wrap64 a5) 5) up).1 (factorS (nmO r l j) u (u + r) e (Int.tmod (wrap64 a5) 5) up).2 % 1073741824)) (a := 0) (b := 274877906944) i (fun j hj => by
    have w := h.wt j (by omega)
    have q0 : 0 ≤ growS x (factorS (nmO r l j) u (u + r) e (Int.tmod (wrap64 a5) 5) up).1 (factorS (nmO r l j) u (u + r) e (Int.tmod (wrap64 a5) 5) up).2 % 1073741824 ∧ growS x (factorS (nmO r l j) u (u + r) e (Int.tmod (wrap64 a5) 5) up).1 (factorS (nmO r l j) u (u + r) e (Int.tmod (wrap64 a5) 5) up).2 % 1073741824 ≤ 1073741824 := by omega
    have m := mul_le (show 0 ≤ wtO l j by omega) q0.1 w.2 q0.2
    omega)
  intro n
  induction n with
  | zero =>
    intro i hn hi
    obtain rfl : i = l.length := by omega
    have q1 := r1 l.length (Nat.le_refl _)
    have q2 := r2 l.length (Nat.le_refl _)
    have s2 := sumN_digits (wtO l) (fun j => growS x (factorS (nmO r l j) u (u + r) e (Int.tmod (wrap64 a5) 5) up).1 (factorS (nmO r l j) u (u + r) e (Int.tmod (wrap64 a5) 5) up).2) 1073741824 l.length
    rw [← s2] at key
    clear r1 r2 s2
    generalize sumN (fun j => wtO l j * (growS x (factorS (nmO r l j) u (u + r) e (Int.tmod (wrap64 a5) 5) up).1 (factorS (nmO r l j) u (u + r) e (Int.tmod (wrap64 a5) 5) up).2 / 1073741824)) l.length = T at *
    generalize sumN (fun j => wtO l j * (growS x (factorS (nmO r l j) u (u + r) e (Int.tmod (wrap64 a5) 5) up).1 (factorS (nmO r l j) u (u + r) e (Int.tmod (wrap64 a5) 5) up).2 % 1073741824)) l.length = R at *
    generalize sumN (wtO l) l.length = W at *
    have k1 := mul_le (show 0 ≤ W by omega) (show 0 ≤ x / 1073741824 by omega) (show W ≤ 3072 by omega) (show x / 1073741824 ≤ 2147483648 by omega)
    have k2 := mul_le (show 0 ≤ W by omega) (show 0 ≤ x % 1073741824 by omega) (show W ≤ 3072 by omega) (show x % 1073741824 ≤ 1073741824 by omega)
    have k3 : x * W = 1073741824 * (W * (x / 1073741824)) + W * (x % 1073741824) := by
      have := Int.mul_ediv_add_emod x 1073741824
      calc x * W = W * (1073741824 * (x / 1073741824) + x % 1073741824) := by rw [this, Int.mul_comm]
        _ = _ := by grind
    rw [k3] at key
    have fin : Ev (fun k => flagstonelaw40_WealthFair.j6 k l a5 a6 u r W b20 b21 x i23 false) true := by
      refine Ev.step (fun k => ?_) done
      simp only [flagstonelaw40_WealthFair.j6]
      rw [if_neg (by decide)]
    refine Ev.step (fun k => by simp only [flagstonelaw40_WealthFair.l2]; rw [if_neg (by omega)]) ?_
    rw [and30 (x := x) (by omega) (by omega), w64_id (x := W * (x / 1073741824)) (by omega) (by omega), w64_id (x := W * (x % 1073741824)) (by omega) (by omega)]
    generalize W * (x / 1073741824) = H at *
    generalize W * (x % 1073741824) = L at *
    rw [w64_id (x := T + R / 1073741824) (by omega) (by omega), w64_id (x := H + L / 1073741824) (by omega) (by omega), and30 (x := R) (by omega) (by omega), and30 (x := L) (by omega) (by omega)]
    refine Ev.neg (by omega) (Ev.both (fun c => ?_) (fun c => fin))
    rw [decide_eq_false (by omega)]
    exact fin
  | succ n ih =>
    intro i hn hi
    have hlt : i < l.length := by omega
    have hwi : wrap64 ((i : Int) + 1) = ((i + 1 : Nat) : Int) := by rw [w64_id (by omega) (by omega)]; omega
    have p1 := r1 i (by omega)
    have p2 := r2 i (by omega)
    have p3 := r1 (i + 1) (by omega)
    have p4 := r2 (i + 1) (by omega)
    have hu0 := h.u0
    have hu1 := h.u1
    have hr0 := h.r0
    have hr1 := h.r1
    have hw := h.wt i hlt
    refine Ev.step (fun k => by simp only [flagstonelaw40_WealthFair.l2]; rw [if_pos (by omega), if_pos (by omega)]) ?_
    refine Ev.neg (by rw [h.rE]; omega) ?_
    rw [h.nmE i hlt, h.wtE i hlt, w64_id (x := u + r) (by omega) (by omega)]
    refine Ev.bind (wealth_Factor_is _ _ _ _ _ _) (Ev.bind (wealth_Grow_is (factorS_most _ _ _ _ _ _)) ?_)
    have g := growS_range x (factorS (nmO r l i) u (u + r) e (Int.tmod (wrap64 a5) 5) up).1 (factorS (nmO r l i) u (u + r) e (Int.tmod (wrap64 a5) 5) up).2
    have next := ih (i + 1) (by omega) (by omega)
    rw [and30 (by omega) (by omega)]
    simp only [sumN] at p3 p4 next
    clear r1 r2 key done ih
    generalize growS x (factorS (nmO r l i) u (u + r) e (Int.tmod (wrap64 a5) 5) up).1 (factorS (nmO r l i) u (u + r) e (Int.tmod (wrap64 a5) 5) up).2 = G at *
    have m1 := mul_le (show 0 ≤ wtO l i by omega) (show 0 ≤ G / 1073741824 by omega) hw.2 (show G / 1073741824 ≤ 2147483648 by omega)
    have m2 := mul_le (show 0 ≤ wtO l i by omega) (show 0 ≤ G % 1073741824 by omega) hw.2 (show G % 1073741824 ≤ 1073741824 by omega)
    rw [w64_id (x := wtO l i * (G / 1073741824)) (by omega) (by omega), w64_id (x := wtO l i * (G % 1073741824)) (by omega) (by omega), hwi]
    rw [w64_id (x := sumN _ i + wtO l i * (G / 1073741824)) (by omega) (by omega), w64_id (x := sumN _ i + wtO l i * (G % 1073741824)) (by omega) (by omega)]
    exact next
theorem clamp_range (x : Int) : -1000 ≤ mx (-1000) (mn x 1000) ∧ mx (-1000) (mn x 1000) ≤ 1000 := by
  unfold mx mn; split <;> split <;> omega
/-- One direction. -/
theorem fair_j4 {l : List S38} {u r x e a5 a6 b20 b21 i23 : Int} {up : Bool} (h : OkO l u r) (x0 : 0 ≤ x) (x1 : x ≤ 2305843009213693952) (h5 : 0 ≤ a5 ∧ a5 ≤ 255) (he0 : -1000 ≤ e) (he1 : e ≤ 1000)
    (hs : if up = true then 1000 * sumN (fun j => wtO l j * nmO r l j) l.length ≤ u * e * sumN (wtO l) l.length else u * e * sumN (wtO l) l.length ≤ 1000 * sumN (fun j => wtO l j * nmO r l j) l.length)
    (done : Ev (fun k => flagstonelaw40_WealthFair.l1 k l a5 a6 u r (sumN (wtO l) l.length) b20 b21 x (wrap64 (i23 + 1))) true) :
    Ev (fun k => flagstonelaw40_WealthFair.j4 k l a5 a6 u r (sumN (wtO l) l.length) b20 b21 x i23 e up false) true := by
  have hb : 0 ≤ Int.tmod (wrap64 a5) 5 ∧ Int.tmod (wrap64 a5) 5 ≤ 4 := by
    rw [w64_id (by omega) (by omega), Int.tmod_eq_emod_of_nonneg h5.1]; omega
  have hu0 := h.u0
  have hr0 := h.r0
  have hu1 := h.u1
  have hr1 := h.r1
  refine Ev.step (fun k => ?_) (fair_l2 (i23 := i23) (b20 := b20) (b21 := b21) (a6 := a6) (up := up) (e := e) (a5 := a5) h x0 x1 (wealth_fair x0 hu0 hr0 (by omega) he0 he1 hb.1 hb.2 (fun j hj => by have := h.wt j hj; omega) (fun j hj => h.nm j hj) hs) done l.length 0 (by omega) (by omega))
  simp only [flagstonelaw40_WealthFair.j4]
  rw [if_neg (by decide)]
  rfl
theorem fair_skip {l : List S38} {u r x e a5 a6 W b20 b21 i23 : Int} {up : Bool} (done : Ev (fun k => flagstonelaw40_WealthFair.l1 k l a5 a6 u r W b20 b21 x (wrap64 (i23 + 1))) true) :
    Ev (fun k => flagstonelaw40_WealthFair.j4 k l a5 a6 u r W b20 b21 x i23 e up true) true := by
  refine Ev.step (fun k => ?_) done
  simp only [flagstonelaw40_WealthFair.j4]
  rw [if_pos (by trivial)]
theorem fair_l1 {l : List S38} {u r x a5 a6 b20 b21 : Int} (h : OkO l u r) (x0 : 0 ≤ x) (x1 : x ≤ 2305843009213693952) (h5 : 0 ≤ a5 ∧ a5 ≤ 255)
    (hlo : b20 * (u * sumN (wtO l) l.length) ≤ 1000 * sumN (fun j => wtO l j * nmO r l j) l.length) (hhi : 1000 * sumN (fun j => wtO l j * nmO r l j) l.length ≤ b21 * (u * sumN (wtO l) l.length)) :
    Ev (fun k => flagstonelaw40_WealthFair.l1 k l a5 a6 u r (sumN (wtO l) l.length) b20 b21 x 0) true := by
  have hW := sumN_range (f := wtO l) (a := 1) (b := 256) l.length (fun j hj => h.wt j hj)
  have hu0 := h.u0
  have hn0 := h.n0
  have hp : 0 ≤ u * sumN (wtO l) l.length := Int.mul_nonneg (by omega) (by omega)
  have up_ok : ∀ e, b21 ≤ e → 1000 * sumN (fun j => wtO l j * nmO r l j) l.length ≤ u * e * sumN (wtO l) l.length := fun e he => by
    have := Int.mul_le_mul_of_nonneg_right he hp
    rw [show u * e * sumN (wtO l) l.length = e * (u * sumN (wtO l) l.length) by grind]
    omega
  have down_ok : ∀ e, e ≤ b20 → u * e * sumN (wtO l) l.length ≤ 1000 * sumN (fun j => wtO l j * nmO r l j) l.length := fun e he => by
    have := Int.mul_le_mul_of_nonneg_right he hp
    rw [show u * e * sumN (wtO l) l.length = e * (u * sumN (wtO l) l.length) by grind]
    omega
  have l2 : Ev (fun k => flagstonelaw40_WealthFair.l1 k l a5 a6 u r (sumN (wtO l) l.length) b20 b21 x (wrap64 (1 + 1))) true := by
    refine Ev.step (f := fun _ => some true) (fun k => ?_) (Ev.now _)
    rw [show wrap64 (1 + 1) = 2 from w64_id (by decide) (by decide)]
    simp only [flagstonelaw40_WealthFair.l1]
    rw [if_neg (by decide)]
  have l1 : Ev (fun k => flagstonelaw40_WealthFair.l1 k l a5 a6 u r (sumN (wtO l) l.length) b20 b21 x (wrap64 (0 + 1))) true := by
    refine Ev.step (f := fun k => flagstonelaw40_WealthFair.j3 k l a5 a6 u r (sumN (wtO l) l.length) b20 b21 x 1 (wrap64 (b20 - (wrap64 a6))) false) (fun k => ?_) ?_
    · rw [show wrap64 (0 + 1) = 1 from w64_id (by decide) (by decide)]
      simp only [flagstonelaw40_WealthFair.l1]
      rw [if_pos (by decide), if_pos (by trivial)]
    · have cr := clamp_range (wrap64 (b20 - (wrap64 a6)))
      refine Ev.step (fun k => by simp only [flagstonelaw40_WealthFair.j3]; rw [if_neg (by decide)]) ?_
      by_cases c : mx (-1000) (mn (wrap64 (b20 - (wrap64 a6))) 1000) > b20
      · rw [decide_eq_true c]; exact fair_skip l2
      · rw [decide_eq_false c]; exact fair_j4 h x0 x1 h5 cr.1 cr.2 (by rw [if_neg (by decide)]; exact down_ok _ (by omega)) l2
  refine Ev.step (f := fun k => flagstonelaw40_WealthFair.j3 k l a5 a6 u r (sumN (wtO l) l.length) b20 b21 x 0 (wrap64 (b21 + (wrap64 a6))) true) (fun k => ?_) ?_
  · simp only [flagstonelaw40_WealthFair.l1]
    rw [if_pos (by decide), if_neg (by decide)]
  · have cr := clamp_range (wrap64 (b21 + (wrap64 a6)))
    refine Ev.step (fun k => by simp only [flagstonelaw40_WealthFair.j3]; rw [if_pos (by trivial)]) ?_
    exact Ev.both (fun c => fair_skip l1) (fun c => fair_j4 h x0 x1 h5 cr.1 cr.2 (by rw [if_pos rfl]; exact up_ok _ (by omega)) l1)
theorem fair_l0 {l : List S38} {u r a3 a4 a5 a6 : Int} (h : OkO l u r) (h4 : 0 ≤ a4) (h5 : 0 ≤ a5 ∧ a5 ≤ 255) : ∀ n i : Nat, l.length - i = n → i ≤ l.length →
    Ev (fun k => flagstonelaw40_WealthFair.l0 k l a3 a4 a5 a6 u r (sumN (wtO l) i) (sumN (fun j => wtO l j * nmO r l j) i) (i : Int)) true := by
  have hn1 := h.n1
  have hn0 := h.n0
  have hu0 := h.u0
  have hu1 := h.u1
  have hr0 := h.r0
  have hr1 := h.r1
  have r1 := fun i (hi : i ≤ l.length) => sumN_range (f := wtO l) (a := 1) (b := 256) i (fun j hj => h.wt j (by omega))
  have r2 := fun i (hi : i ≤ l.length) => sumN_range (f := fun j => wtO l j * nmO r l j) (a := -65536) (b := 65536) i (fun j hj => by
    have w := h.wt j (by omega)
    have m := h.nm j (by omega)
    have := mul_range (show 0 ≤ wtO l j by omega) w.2 (show -256 ≤ nmO r l j by omega) (show nmO r l j ≤ 256 by omega)
    omega)
  intro n
  induction n with
  | zero =>
    intro i hn hi
    obtain rfl : i = l.length := by omega
    have q1 := r1 l.length (Nat.le_refl _)
    have q2 := r2 l.length (Nat.le_refl _)
    clear r1 r2
    refine Ev.step (fun k => by simp only [flagstonelaw40_WealthFair.l0]; rw [if_neg (by omega)]) ?_
    have hx : 0 ≤ wrap64 (IntKind.u64.wrap a3 / 2) := by
      have : 0 ≤ IntKind.u64.wrap a3 / 2 ∧ IntKind.u64.wrap a3 / 2 ≤ 9223372036854775807 := by rw [u64]; omega
      rw [w64_id (by omega) (by omega)]; omega
    have hs : 0 ≤ shr .i64 (wrap64 (IntKind.u64.wrap a3 / 2)) (Int.tmod a4 62) := by unfold shr; exact Int.ediv_nonneg hx (Int.le_of_lt (two_pow_pos _))
    have x0 : 0 ≤ mn (shr .i64 (wrap64 ((IntKind.u64.wrap (a3)) / 2)) (Int.tmod a4 62)) 2305843009213693952 := by unfold mn; split <;> omega
    have x1 : mn (shr .i64 (wrap64 ((IntKind.u64.wrap (a3)) / 2)) (Int.tmod a4 62)) 2305843009213693952 ≤ 2305843009213693952 := by unfold mn; split <;> omega
    have t0 : 0 ≤ Int.tmod a4 62 := by rw [Int.tmod_eq_emod_of_nonneg h4]; omega
    have hp := mul_le (show 0 ≤ sumN (wtO l) l.length by omega) (show 0 ≤ u by omega) (show sumN (wtO l) l.length ≤ 3072 by omega) hu1
    have hp0 : 0 < sumN (wtO l) l.length * u := Int.mul_pos (by omega) (by omega)
    have fl := fair_l1 (x := mn (shr .i64 (wrap64 ((IntKind.u64.wrap (a3)) / 2)) (Int.tmod a4 62)) 2305843009213693952) (a5 := a5) (a6 := a6) (b20 := sumN (fun j => wtO l j * nmO r l j) l.length * 1000 / (sumN (wtO l) l.length * u)) (b21 := -(-(sumN (fun j => wtO l j * nmO r l j) l.length) * 1000 / (sumN (wtO l) l.length * u))) h x0 x1 h5
      (by have := Int.ediv_mul_le (sumN (fun j => wtO l j * nmO r l j) l.length * 1000) (b := sumN (wtO l) l.length * u) (by omega)
          rw [Int.mul_comm u]; omega)
      (by have := Int.ediv_mul_le (-(sumN (fun j => wtO l j * nmO r l j) l.length) * 1000) (b := sumN (wtO l) l.length * u) (by omega)
          rw [Int.mul_comm u, Int.neg_mul]; omega)
    generalize sumN (fun j => wtO l j * nmO r l j) l.length = S at *
    generalize sumN (wtO l) l.length = W at *
    rw [w64_id (x := W * u) (by omega) (by omega), w64_id (x := S * 1000) (by omega) (by omega), w64_id (x := -S) (by omega) (by omega), w64_id (x := -S * 1000) (by omega) (by omega), floor_is hp0 (by omega) (by omega), floor_is hp0 (by omega) (by omega)]
    refine Ev.bind (Ev.now _) (Ev.bind (Ev.now _) (Ev.pos t0 ?_))
    have big : -100000000000 ≤ -S * 1000 / (W * u) ∧ -S * 1000 / (W * u) ≤ 100000000000 := by
      constructor
      · exact Int.le_ediv_of_mul_le hp0 (by have := Int.mul_le_mul_of_nonneg_left (show 1 ≤ W * u by omega) (show (0 : Int) ≤ 100000000000 by decide); omega)
      · exact Int.le_of_lt_add_one (Int.ediv_lt_of_lt_mul hp0 (by have := Int.mul_le_mul_of_nonneg_left (show 1 ≤ W * u by omega) (show (0 : Int) ≤ 100000000001 by decide); omega))
    rw [w64_id (x := -(-S * 1000 / (W * u))) (by omega) (by omega)]
    exact fl
  | succ n ih =>
    intro i hn hi
    have hlt : i < l.length := by omega
    have hwi : wrap64 ((i : Int) + 1) = ((i + 1 : Nat) : Int) := by rw [w64_id (by omega) (by omega)]; omega
    have p1 := r1 i (by omega)
    have p2 := r2 i (by omega)
    have hw := h.wt i hlt
    have hm := h.nm i hlt
    have next := ih (i + 1) (by omega) (by omega)
    have mm := mul_range (show 0 ≤ wtO l i by omega) hw.2 (show -256 ≤ nmO r l i by omega) (show nmO r l i ≤ 256 by omega)
    simp only [sumN] at next
    clear r1 r2 ih
    refine Ev.step (fun k => by simp only [flagstonelaw40_WealthFair.l0]; rw [if_pos (by omega), if_pos (by omega), if_neg (by rw [h.rE]; omega)]) ?_
    rw [h.nmE i hlt, h.wtE i hlt, hwi, w64_id (x := wtO l i * nmO r l i) (by omega) (by omega), w64_id (x := sumN (wtO l) i + wtO l i) (by omega) (by omega), w64_id (x := sumN _ i + wtO l i * nmO r l i) (by omega) (by omega)]
    exact next
theorem rd_O {xs : List S38} {i : Nat} (h : i < xs.length) : rd_T38 xs (i : Int) = xs[i] := by
  unfold rd_T38
  rw [Int.toNat_natCast, List.getD_eq_getElem?_getD, List.getElem?_eq_getElem h]
  rfl
theorem WealthFair : flagstonelaw40_WealthFair.Pure := by
  intro l a1 a2 a3 a4 a5 a6 m0 wl w1 w2 w3 w4 w5 w6
  have b1 := u8_of w1
  have b2 := u8_of w2
  have b4 := u8_of w4
  have b5 := u8_of w5
  apply Ev.rounds
  unfold flagstonelaw40_WealthFair.f
  have out : Ev (fun k => flagstonelaw40_WealthFair.j0 k l a1 a2 a3 a4 a5 a6 true) true := by
    refine Ev.step (f := fun _ => some true) (fun k => ?_) (Ev.now _)
    simp only [flagstonelaw40_WealthFair.j0]
    rw [if_pos (by trivial)]
  refine Ev.bind awake_is (Ev.pos rfl (Ev.both (fun _ => out) (fun hl => ?_)))
  by_cases c : (l.length : Int) > 12
  · rw [decide_eq_true c]; exact out
  rw [decide_eq_false c]
  have e1 : wrap64 (1 + Int.tmod (wrap64 a1) 30) = 1 + a1 % 30 := by rw [w64_id (x := a1) (by omega) (by omega), Int.tmod_eq_emod_of_nonneg b1.1, w64_id (by omega) (by omega)]
  have e2 : wrap64 (1 + wrap64 a2) = 1 + a2 := by rw [w64_id (x := a2) (by omega) (by omega), w64_id (by omega) (by omega)]
  refine Ev.step (fun k => ?_) (fair_l0 (l := l) (u := 1 + a1 % 30) (r := 1 + a2) (a3 := a3) (a4 := a4) (a5 := a5) (a6 := a6) ⟨by omega, by omega, by omega, by omega, by omega, by omega, fun j hj => ?_⟩ b4.1 b5 l.length 0 (by omega) (by omega))
  · simp only [flagstonelaw40_WealthFair.j0]
    rw [if_neg (by decide), e1, e2]
    rfl
  · rw [rd_O hj]
    have h := wl _ (List.getElem_mem hj)
    have h1 := u8_of h.1
    have h2 := u8_of h.2
    exact ⟨h1.1, h1.2, h2.1, h2.2⟩
end Go.Proofs.Ytafcnpfhihnmgaa.Pure
