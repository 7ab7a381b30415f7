/- A false alarm of the sample-ratio test is as rare as declared, exactly: the weight of all sequences of seven subjects (six, if there are three arms) in which the wealth ever reaches its threshold is at most the level times the weight of all sequences. No condition. -/
import Derived.Test.YthkgjkmcmkpkcaaPA7
import Derived.Test.YthkgjkmcmkpkcaaB2
namespace Go.Proofs.Ythkgjkmcmkpkcaa.Pure
open Go Go.RowKit Go.Proofs.Ythkgjkmcmkpkcaa.PA Go.Proofs.YthkgjkmcmkpkcaaW.PrintWords Go.Proofs.YthkgjkmcmkpkcaaW.PrintLast Go.Proofs.YthkgjkmcmkpkcaaW.PrintMore Go.Proofs.Ythkgjkmcmkpkcaa.M
set_option linter.unusedVariables false
set_option linter.unusedSimpArgs false

/-- The weight of all sequences of n more arms in which the wealth ever reaches the threshold. -/
def reachS (ws : List Int) (t : Int) : Nat → Int → List Int → Int
  | 0, w, _ => if w ≥ t then 1 else 0
  | n + 1, w, cs => if w ≥ t then pre ws ws.length ^ (n + 1) else sumW ws (fun i => reachS ws t n (stepS w cs ws ((i : Int) + 1)).1 (stepS w cs ws ((i : Int) + 1)).2) ws.length

structure Small (ws : List Int) : Prop where
  two : 2 ≤ ws.length
  three : ws.length ≤ 3
  each : ∀ j : Nat, j < ws.length → 1 ≤ rd ws (j : Int) ∧ rd ws (j : Int) ≤ 9
theorem Small.pre {ws : List Int} (h : Small ws) : ∀ i : Nat, i ≤ ws.length → 0 ≤ pre ws i ∧ pre ws i ≤ 9 * i
  | 0, _ => by simp [PA.pre]
  | i + 1, hi => by
    have h1 := h.pre i (by omega)
    have h2 := h.each i (by omega)
    simp only [PA.pre]
    omega
theorem Small.sum {ws : List Int} (h : Small ws) : 0 ≤ PA.pre ws ws.length ∧ PA.pre ws ws.length ≤ 27 := by
  have := h.pre ws.length (Nat.le_refl _)
  have := h.three
  omega
theorem pow_le27 {s : Int} (h0 : 0 ≤ s) (h1 : s ≤ 27) : ∀ n : Nat, 0 ≤ s ^ n ∧ s ^ n ≤ 27 ^ n
  | 0 => by simp
  | n + 1 => by
    have h := pow_le27 h0 h1 n
    have m := mul_le h.1 h0 h.2 h1
    rw [Int.pow_succ, Int.pow_succ]
    exact m
theorem pow27_le : ∀ n : Nat, n ≤ 7 → (27 : Int) ^ n ≤ 10460353203 := by
  intro n hn
  have : n = 0 ∨ n = 1 ∨ n = 2 ∨ n = 3 ∨ n = 4 ∨ n = 5 ∨ n = 6 ∨ n = 7 := by omega
  rcases this with rfl | rfl | rfl | rfl | rfl | rfl | rfl | rfl <;> decide
theorem sumW_nonneg {ws : List Int} {f : Nat → Int} : ∀ i : Nat, (∀ j : Nat, j < i → 0 ≤ rd ws (j : Int)) → (∀ j : Nat, j < i → 0 ≤ f j) → 0 ≤ sumW ws f i
  | 0, _, _ => by simp [sumW]
  | i + 1, h0, h => by
    have h1 := sumW_nonneg i (fun j hj => h0 j (by omega)) (fun j hj => h j (by omega))
    have h2 := Int.mul_nonneg (h0 i (by omega)) (h i (by omega))
    simp only [sumW]
    omega
/-- It is a weight: from 0 to that of all sequences. -/
theorem reach_range {ws : List Int} (hs : Small ws) (t : Int) : ∀ n w cs, 0 ≤ reachS ws t n w cs ∧ reachS ws t n w cs ≤ pre ws ws.length ^ n := by
  intro n
  induction n with
  | zero =>
    intro w cs
    unfold reachS
    split <;> simp
  | succ n ih =>
    intro w cs
    have hp := pow_le27 hs.sum.1 hs.sum.2 (n + 1)
    unfold reachS
    split
    · exact ⟨hp.1, Int.le_refl _⟩
    · refine ⟨sumW_nonneg _ (fun j hj => by have := hs.each j hj; omega) (fun j hj => (ih _ _).1), ?_⟩
      have h1 := sumW_mono (ws := ws) (f := fun i => reachS ws t n (stepS w cs ws ((i : Int) + 1)).1 (stepS w cs ws ((i : Int) + 1)).2) (g := fun _ => pre ws ws.length ^ n) ws.length (fun j hj => by have := hs.each j hj; omega) (fun j hj => (ih _ _).2)
      rw [sumW_const] at h1
      rw [Int.pow_succ, Int.mul_comm (pre ws ws.length ^ n)]
      exact h1

/-! What the program's own count answers. -/
theorem reaches_power {s t : Int} (h0 : 0 ≤ s) (h1 : s ≤ 27) (n : Nat) (hn : n ≤ 7) : ∀ d i : Nat, n - i = d → i ≤ n → Ev (fun k => flagstonelaw42_reaches.l1 k (n : Int) s (s ^ i) (i : Int)) (s ^ n) := by
  intro d
  induction d with
  | zero =>
    intro i hd hi
    obtain rfl : i = n := by omega
    refine Ev.step (f := fun _ => some _) (fun k => ?_) (Ev.now _)
    simp only [flagstonelaw42_reaches.l1]
    rw [if_neg (by omega)]
  | succ d ih =>
    intro i hd hi
    have hw : wrap64 ((i : Int) + 1) = ((i + 1 : Nat) : Int) := by rw [w64_id (by omega) (by omega)]; omega
    have hp := pow_le27 h0 h1 (i + 1)
    have hq := pow27_le (i + 1) (by omega)
    rw [Int.pow_succ] at hp
    refine Ev.step (fun k => ?_) (ih (i + 1) (by omega) (by omega))
    simp only [flagstonelaw42_reaches.l1]
    rw [if_pos (by omega), w64_id (x := s ^ i * s) (by omega) (by omega), hw, Int.pow_succ]
theorem reaches_sum {ws : List Int} (hs : Small ws) {w : Int} {cs : List Int} {n t : Int} {R : Int} (last : Ev (fun k => flagstonelaw42_reaches.l0 k w cs ws n t (pre ws ws.length) (ws.length : Int)) R) :
    ∀ d i : Nat, ws.length - i = d → i ≤ ws.length → Ev (fun k => flagstonelaw42_reaches.l0 k w cs ws n t (pre ws i) (i : Int)) R := by
  intro d
  induction d with
  | zero =>
    intro i hd hi
    obtain rfl : i = ws.length := by omega
    exact last
  | succ d ih =>
    intro i hd hi
    have h3 := hs.three
    have hw : wrap64 ((i : Int) + 1) = ((i + 1 : Nat) : Int) := by rw [w64_id (by omega) (by omega)]; omega
    have p := hs.pre i (by omega)
    have g := hs.each i (by omega)
    have f1 : wrap64 (pre ws i + rd ws (i : Int)) = pre ws (i + 1) := w64_id (by omega) (by omega)
    refine Ev.step (fun k => ?_) (ih (i + 1) (by omega) (by omega))
    simp only [flagstonelaw42_reaches.l0]
    rw [if_pos (by omega), if_pos (by omega), f1, hw]
theorem reaches_l2 {ws : List Int} (hs : Small ws) {w : Int} {cs : List Int} {n n1 t : Int} (st : Nat → Int × List Int) (F : Nat → Int)
    (hstep : ∀ i : Nat, i < ws.length → Ev (fun k => balance_Step.f k w cs ws ((i : Int) + 1)) (st i))
    (hrec : ∀ i : Nat, i < ws.length → Ev (fun k => flagstonelaw42_reaches.f k (st i).1 (st i).2 ws n t) (F i))
    (hF : ∀ i : Nat, 0 ≤ F i ∧ F i ≤ 10460353203) (hn1 : wrap64 (n1 - 1) = n) :
    ∀ d i : Nat, ws.length - i = d → i ≤ ws.length → Ev (fun k => flagstonelaw42_reaches.l2 k w cs ws n1 t (sumW ws F i) (i : Int)) (sumW ws F ws.length) := by
  have h3 := hs.three
  have hsum : ∀ i : Nat, i ≤ ws.length → 0 ≤ sumW ws F i ∧ sumW ws F i ≤ 9 * 10460353203 * (i : Int) := by
    intro i
    induction i with
    | zero => intro _; simp [sumW]
    | succ i ihs =>
      intro hi
      have h1 := ihs (by omega)
      have h2 := hs.each i (by omega)
      have h4 := hF i
      have m := mul_le (show 0 ≤ rd ws (i : Int) by omega) h4.1 h2.2 h4.2
      simp only [sumW]
      omega
  intro d
  induction d with
  | zero =>
    intro i hd hi
    obtain rfl : i = ws.length := by omega
    refine Ev.step (f := fun _ => some _) (fun k => ?_) (Ev.now _)
    simp only [flagstonelaw42_reaches.l2]
    rw [if_neg (by omega)]
  | succ d ihd =>
    intro i hd hi
    have hw : wrap64 ((i : Int) + 1) = ((i + 1 : Nat) : Int) := by rw [w64_id (by omega) (by omega)]; omega
    have hwc : ((i + 1 : Nat) : Int) = (i : Int) + 1 := by omega
    refine Ev.step (f := fun k => (balance_Step.f k w cs ws ((i : Int) + 1)).bind fun bt227 => (if 0 ≤ (i : Int) then ((flagstonelaw42_reaches.f k bt227.1 bt227.2 ws n t).bind fun t232 => (flagstonelaw42_reaches.l2 k w cs ws n1 t (wrap64 (sumW ws F i + (wrap64 ((rd ws (i : Int)) * t232)))) ((i : Int) + 1))) else (none))) (fun k => ?_) ?_
    · simp only [flagstonelaw42_reaches.l2]
      rw [if_pos (by omega), hw, hn1, hwc]
    · refine Ev.bind (hstep i (by omega)) (Ev.pos (by omega) (Ev.bind (hrec i (by omega)) ?_))
      have h2 := hs.each i (by omega)
      have h4 := hF i
      have m := mul_le (show 0 ≤ rd ws (i : Int) by omega) h4.1 h2.2 h4.2
      have s1 := hsum i (by omega)
      rw [w64_id (x := rd ws (i : Int) * F i) (by omega) (by omega), w64_id (x := sumW ws F i + rd ws (i : Int) * F i) (by omega) (by omega), ← hwc]
      exact ihd (i + 1) (by omega) (by omega)
theorem reaches_is {ws : List Int} (hs : Small ws) (t : Int) : ∀ n : Nat, n ≤ 7 → ∀ w cs, cs.length = ws.length → Ev (fun k => flagstonelaw42_reaches.f k w cs ws (n : Int) t) (reachS ws t n w cs) := by
  intro n
  induction n with
  | zero =>
    intro hn w cs hl
    refine Ev.step (f := fun k => flagstonelaw42_reaches.l0 k w cs ws 0 t 0 0) (fun k => by simp only [flagstonelaw42_reaches.f]; rfl) ?_
    refine reaches_sum hs (n := 0) ?_ ws.length 0 (by omega) (by omega)
    refine Ev.step (f := fun k => if w ≥ t then (flagstonelaw42_reaches.l1 k 0 (pre ws ws.length) 1 0) else (some 0)) (fun k => by simp only [flagstonelaw42_reaches.l0]; rw [if_neg (by omega)]; rfl) ?_
    unfold reachS
    by_cases c : w ≥ t
    · rw [if_pos c]
      exact Ev.pos c (by have := reaches_power (t := t) hs.sum.1 hs.sum.2 0 (by omega) 0 0 (by omega) (by omega); simpa using this)
    · rw [if_neg c]
      exact Ev.neg c (Ev.now _)
  | succ n ih =>
    intro hn w cs hl
    refine Ev.step (f := fun k => flagstonelaw42_reaches.l0 k w cs ws ((n + 1 : Nat) : Int) t 0 0) (fun k => by simp only [flagstonelaw42_reaches.f]) ?_
    refine reaches_sum hs ?_ ws.length 0 (by omega) (by omega)
    refine Ev.step (f := fun k => if w ≥ t then (flagstonelaw42_reaches.l1 k ((n + 1 : Nat) : Int) (pre ws ws.length) 1 0) else (flagstonelaw42_reaches.l2 k w cs ws ((n + 1 : Nat) : Int) t 0 0)) (fun k => by simp only [flagstonelaw42_reaches.l0]; rw [if_neg (by omega), if_neg (show ¬ ((n + 1 : Nat) : Int) = 0 by omega)]) ?_
    unfold reachS
    by_cases c : w ≥ t
    · rw [if_pos c]
      refine Ev.pos c ?_
      have := reaches_power (t := t) hs.sum.1 hs.sum.2 (n + 1) (by omega) (n + 1) 0 (by omega) (by omega)
      simpa using this
    · rw [if_neg c]
      refine Ev.neg c ?_
      have hn1 : wrap64 (((n + 1 : Nat) : Int) - 1) = (n : Int) := by rw [w64_id (by omega) (by omega)]; omega
      have hq := pow27_le n (by omega)
      have hp := pow_le27 hs.sum.1 hs.sum.2 n
      have hl3 := hs.three
      refine reaches_l2 hs (fun i => stepS w cs ws ((i : Int) + 1)) (fun i => reachS ws t n (stepS w cs ws ((i : Int) + 1)).1 (stepS w cs ws ((i : Int) + 1)).2) (fun i hi => balance_Step_is (by omega)) (fun i hi => ih (by omega) _ _ (by rw [stepS_length]; exact hl)) (fun i => ?_) hn1 ws.length 0 (by omega) (by omega)
      have r := reach_range hs t n (stepS w cs ws ((i : Int) + 1)).1 (stepS w cs ws ((i : Int) + 1)).2
      exact ⟨r.1, Int.le_trans r.2 (Int.le_trans hp.2 hq)⟩

/-! The theorem: Ville's inequality for the sequences of this length. -/
theorem goods_set {ws : List Int} (hs : ∀ j : Nat, j < ws.length → 1 ≤ rd ws (j : Int) ∧ rd ws (j : Int) ≤ 10000) : ∀ {cs : List Int}, cs.length = ws.length → (∀ j : Nat, j < cs.length → 0 ≤ rd cs (j : Int) ∧ rd cs (j : Int) ≤ 512) → goods cs ws = true := by
  have : ∀ (cs ws : List Int), (∀ j : Nat, j < ws.length → 1 ≤ rd ws (j : Int) ∧ rd ws (j : Int) ≤ 10000) → cs.length = ws.length → (∀ j : Nat, j < cs.length → 0 ≤ rd cs (j : Int) ∧ rd cs (j : Int) ≤ 512) → goods cs ws = true := by
    intro cs
    induction cs with
    | nil => intro ws _ _ _; cases ws <;> simp [goods]
    | cons x xs ih =>
      intro ws h1 hl h2
      cases ws with
      | nil => simp at hl
      | cons y ys =>
        have a := h1 0 (by simp)
        have b := h2 0 (by simp)
        have a : 1 ≤ y ∧ y ≤ 10000 := by simpa [rd] using a
        have b : 0 ≤ x ∧ x ≤ 512 := by simpa [rd] using b
        simp only [goods, Bool.and_eq_true, decide_eq_true_eq]
        refine ⟨by omega, ih ys (fun j hj => ?_) (by simpa using hl) (fun j hj => ?_)⟩
        · have := h1 (j + 1) (by simpa using hj); simpa [rd] using this
        · have := h2 (j + 1) (by simpa using hj); simpa [rd] using this
  intro cs hl h
  exact this cs ws hs hl h
theorem rd_set {cs : List Int} {i j : Nat} (hj : j < cs.length) (hi : i < cs.length) (v : Int) : rd (cs.set i v) (j : Int) = if i = j then v else rd cs (j : Int) := by
  rw [rd_nat (by simpa using hj), rd_nat hj, List.getElem_set]
theorem ville {ws : List Int} (hs : Small ws) (t : Int) : ∀ n : Nat, ∀ w cs, (m : Nat) → m + n ≤ 512 → 0 ≤ w → w ≤ 2305843009213693952 → cs.length = ws.length → (∀ j : Nat, j < cs.length → 0 ≤ rd cs (j : Int) ∧ rd cs (j : Int) ≤ m) →
    reachS ws t n w cs * t ≤ w * pre ws ws.length ^ n := by
  intro n
  induction n with
  | zero =>
    intro w cs m hm w0 w1 hl hc
    unfold reachS
    split
    · simp; omega
    · simp; omega
  | succ n ih =>
    intro w cs m hm w0 w1 hl hc
    have hp := pow_le27 hs.sum.1 hs.sum.2 (n + 1)
    have hp' := pow_le27 hs.sum.1 hs.sum.2 n
    have h2 := hs.two
    have h3 := hs.three
    unfold reachS
    split
    · rename_i c
      rw [Int.mul_comm]
      exact Int.mul_le_mul_of_nonneg_right c hp.1
    · have fit : Fit w cs ws := ⟨w0, w1, hl, by omega, by omega, goods_set (fun j hj => by have := hs.each j hj; omega) hl (fun j hj => by have := hc j hj; omega)⟩
      have hi : ∀ j : Nat, j < ws.length → reachS ws t n (stepS w cs ws ((j : Int) + 1)).1 (stepS w cs ws ((j : Int) + 1)).2 * t ≤ (stepS w cs ws ((j : Int) + 1)).1 * pre ws ws.length ^ n := by
        intro j hj
        have r := stepS_range (cs := cs) (ws := ws) (arm := (j : Int) + 1) w0 w1
        refine ih _ _ (m + 1) (by omega) r.1 r.2 (by rw [stepS_length]; exact hl) ?_
        intro i hi
        rw [stepS_length] at hi
        rw [fit.step (by omega)]
        simp only
        rw [rd_set hi (by omega)]
        have a := hc i hi
        have b := hc j (by omega)
        split <;> omega
      have h1 := sumW_mono (ws := ws) (f := fun j => reachS ws t n (stepS w cs ws ((j : Int) + 1)).1 (stepS w cs ws ((j : Int) + 1)).2 * t) (g := fun j => (stepS w cs ws ((j : Int) + 1)).1 * pre ws ws.length ^ n) ws.length (fun j hj => by have := hs.each j hj; omega) hi
      rw [sumW_mul, sumW_mul] at h1
      have h4 := step_fair fit
      rw [hl] at h4
      have h5 := Int.mul_le_mul_of_nonneg_right h4 hp'.1
      rw [Int.pow_succ]
      have e : pre ws ws.length * w * pre ws ws.length ^ n = w * (pre ws ws.length ^ n * pre ws ws.length) := by grind
      omega

theorem level_l0 {ws : List Int} {b : Bool} (hs : Small ws) (hb : b = true ↔ ws.length = 3) {n : Nat} (hn1 : 1 ≤ n) (hn2 : n ≤ 763) : ∀ d i : Nat, 9 - ws.length - i = d → i ≤ 9 - ws.length → Ev (fun k => flagstonelaw42_BalanceLevel.l0 k b ws (n : Int) (pre ws ws.length ^ i) ((9 - ws.length : Nat) : Int) (i : Int)) true := by
  have h2 := hs.two
  have h3 := hs.three
  intro d
  induction d with
  | zero =>
    intro i hd hi
    obtain rfl : i = 9 - ws.length := by omega
    have hK : 9 - ws.length ≤ 7 := by omega
    generalize hk : 9 - ws.length = K at *
    have e1 : wrap64 (4294967296000 + (n : Int)) = 4294967296000 + n := w64_id (by omega) (by omega)
    have e2 : wrap64 (4294967296000 + (n : Int) - 1) = 4294967296000 + n - 1 := w64_id (by omega) (by omega)
    have q0 : 0 ≤ (4294967296000 + (n : Int) - 1) / n := Int.ediv_nonneg (by omega) (by omega)
    have q1 : (4294967296000 + (n : Int) - 1) / n ≤ 4294967296000 + n - 1 := Int.ediv_le_self _ (by omega)
    have e3 : wrap64 (Int.tdiv (wrap64 (wrap64 (4294967296000 + (n : Int)) - 1)) n) = (4294967296000 + (n : Int) - 1) / n := by
      rw [e1, e2, Int.tdiv_eq_ediv_of_nonneg (by omega), w64_id (by omega) (by omega)]
    have q2 : 4294967296000 ≤ (4294967296000 + (n : Int) - 1) / n * n := by
      have g1 := Int.mul_ediv_add_emod (4294967296000 + (n : Int) - 1) n
      have g2 := Int.emod_lt_of_pos (4294967296000 + (n : Int) - 1) (show (0 : Int) < n by omega)
      rw [Int.mul_comm ((4294967296000 + (n : Int) - 1) / n)]
      omega
    refine Ev.step (f := fun k => (flagstonelaw42_reaches.f k 4294967296 (List.replicate ws.length 0) ws (K : Int) ((4294967296000 + (n : Int) - 1) / n)).bind fun t243 => (some (decide ((wrap64 (t243 * 1000)) ≤ (wrap64 ((n : Int) * pre ws ws.length ^ K)))))) (fun k => ?_) ?_
    · simp only [flagstonelaw42_BalanceLevel.l0]
      rw [if_neg (by omega), if_neg (by omega), if_pos (by omega), show ((ws.length : Int)).toNat = ws.length by omega, if_pos (by omega), e3]
    · refine Ev.bind (reaches_is hs _ K hK _ _ (by simp)) ?_
      have v := ville hs ((4294967296000 + (n : Int) - 1) / n) K 4294967296 (List.replicate ws.length 0) 0 (by omega) (by omega) (by omega) (by simp) (fun j hj => by
        have hj : j < ws.length := by simpa using hj
        rw [rd_nat (by simpa using hj)]; simp)
      have r := reach_range hs ((4294967296000 + (n : Int) - 1) / n) K 4294967296 (List.replicate ws.length 0)
      have hp := pow_le27 hs.sum.1 hs.sum.2 K
      have hq := pow27_le K hK
      generalize reachS ws ((4294967296000 + (n : Int) - 1) / n) K 4294967296 (List.replicate ws.length 0) = R at *
      generalize (4294967296000 + (n : Int) - 1) / n = T at *
      generalize pre ws ws.length ^ K = A at *
      have m1 := mul_le (show (0 : Int) ≤ n by omega) (show 0 ≤ A by omega) (show (n : Int) ≤ 763 by omega) (show A ≤ 10460353203 by omega)
      rw [w64_id (x := R * 1000) (by omega) (by omega), w64_id (x := (n : Int) * A) (by omega) (by omega)]
      have k1 := Int.mul_le_mul_of_nonneg_left q2 (show 0 ≤ R by omega)
      have k2 := Int.mul_le_mul_of_nonneg_right v (show (0 : Int) ≤ n by omega)
      have e4 : R * (T * n) = R * T * n := by grind
      have e5 : 4294967296 * A * (n : Int) = 4294967296 * (n * A) := by grind
      rw [decide_eq_true (by omega)]
      exact Ev.now _
  | succ d ih =>
    intro i hd hi
    have hw : wrap64 ((i : Int) + 1) = ((i + 1 : Nat) : Int) := by rw [w64_id (by omega) (by omega)]; omega
    have hp := pow_le27 hs.sum.1 hs.sum.2 (i + 1)
    have hq := pow27_le (i + 1) (by omega)
    rw [Int.pow_succ] at hp
    have c0 := hs.each 0 (by omega)
    have c1 := hs.each 1 (by omega)
    have c0 : 1 ≤ rd ws 0 ∧ rd ws 0 ≤ 9 := c0
    have c1 : 1 ≤ rd ws 1 ∧ rd ws 1 ≤ 9 := c1
    have f1 : wrap64 (rd ws 0 + rd ws 1) = rd ws 0 + rd ws 1 := w64_id (by omega) (by omega)
    refine Ev.step (fun k => ?_) (ih (i + 1) (by omega) (by omega))
    simp only [flagstonelaw42_BalanceLevel.l0]
    rw [if_pos (by omega), if_pos (by omega), if_pos (by omega), f1, hw, Int.pow_succ]
    by_cases h : ws.length = 3
    · rw [if_pos (hb.mpr h), if_pos (by omega)]
      have c2 : 1 ≤ rd ws 2 ∧ rd ws 2 ≤ 9 := hs.each 2 (by omega)
      have hs3 : rd ws 0 + rd ws 1 + rd ws 2 = pre ws ws.length := by rw [h]; simp [PA.pre]
      rw [w64_id (x := rd ws 0 + rd ws 1 + rd ws 2) (by omega) (by omega), hs3, w64_id (by omega) (by omega)]
    · rw [if_neg (fun c => h (hb.mp c))]
      have hl2 : ws.length = 2 := by omega
      have hs2 : rd ws 0 + rd ws 1 = pre ws ws.length := by rw [hl2]; simp [PA.pre]
      rw [hs2, w64_id (by omega) (by omega)]
theorem BalanceLevel : flagstonelaw42_BalanceLevel.Pure := by
  intro a0 a1 a2 a3 a4 w0 w1 w2 w4
  apply Ev.rounds
  unfold flagstonelaw42_BalanceLevel.f
  have b0 := u8_of w0
  have b1 := u8_of w1
  have b2 := u8_of w2
  have b4 := u8_of w4
  have ew : ∀ x : Int, 0 ≤ x → x ≤ 255 → wrap64 (1 + Int.tmod (wrap64 x) 9) = 1 + x % 9 := fun x h0 h1 => by
    rw [w64_id (x := x) (by omega) (by omega), Int.tmod_eq_emod_of_nonneg h0, w64_id (by omega) (by omega)]
  have en : wrap64 (1 + wrap64 (Int.tmod (wrap64 a4) 255 * 3)) = (((1 + a4 % 255 * 3).toNat : Nat) : Int) := by
    rw [w64_id (x := a4) (by omega) (by omega), Int.tmod_eq_emod_of_nonneg (by omega), w64_id (x := a4 % 255 * 3) (by omega) (by omega), w64_id (by omega) (by omega)]; omega
  have last : ∀ (ws : List Int), Small ws → (a3 = true ↔ ws.length = 3) → Ev (fun k => flagstonelaw42_BalanceLevel.j0 k a3 a4 ws) true := by
    intro ws hs hb
    have h2 := hs.two
    have h3 := hs.three
    have ek : wrap64 (9 - (ws.length : Int)) = ((9 - ws.length : Nat) : Int) := by rw [w64_id (by omega) (by omega)]; omega
    refine Ev.step (fun k => ?_) (level_l0 hs hb (n := (1 + a4 % 255 * 3).toNat) (by omega) (by omega) (9 - ws.length) 0 (by omega) (by omega))
    simp only [flagstonelaw42_BalanceLevel.j0]
    rw [en, ek]
    simp
  refine Ev.bind awake_is (Ev.pos rfl ?_)
  rw [ew a0 b0.1 b0.2, ew a1 b1.1 b1.2, ew a2 b2.1 b2.2]
  simp only [Option.bind_some]
  cases a3 with
  | true =>
    refine Ev.pos rfl (Ev.pos (by simp) ?_)
    refine last _ ⟨by simp, by simp, ?_⟩ (by simp)
    intro j hj
    have : j = 0 ∨ j = 1 ∨ j = 2 := by simp at hj; omega
    rcases this with rfl | rfl | rfl <;> simp [rd] <;> omega
  | false =>
    refine Ev.neg (by decide) ?_
    refine last _ ⟨by simp, by simp, ?_⟩ (by simp)
    intro j hj
    have : j = 0 ∨ j = 1 := by simp at hj; omega
    rcases this with rfl | rfl <;> simp [rd] <;> omega
end Go.Proofs.Ythkgjkmcmkpkcaa.Pure
