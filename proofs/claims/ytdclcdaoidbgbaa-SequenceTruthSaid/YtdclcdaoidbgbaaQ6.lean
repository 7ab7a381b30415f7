/- Three hundred equal scores: the true effect is not excluded; those far from it are. -/
import Derived.Test.YtdclcdaoidbgbaaQ5
namespace Go.Proofs.Ytdclcdaoidbgbaa.PA
open Go Go.RowKit Go.Proofs.YtdclcdaoidbgbaaW.PrintWords Go.Proofs.YtdclcdaoidbgbaaW.PrintLast Go.Proofs.YtdclcdaoidbgbaaW.PrintMore Go.Proofs.Ytdclcdaoidbgbaa.M
set_option linter.unusedVariables false
set_option linter.unusedSimpArgs false

theorem growS_le {w n d q : Int} (h0 : 0 ≤ q) (h : w * n / d ≤ q) : growS w n d ≤ q := by
  unfold growS
  split
  · exact h0
  · split <;> omega
/-- A score of which the width is its unit. -/
def evenS (n u : Int) : S50 := ⟨n, u, 2 * u⟩
theorem even_valid {n u : Int} (h0 : 1 ≤ u) (h1 : u ≤ 1000) (h2 : -u ≤ n) (h3 : n ≤ u) : validS (evenS n u).f0 (evenS n u).f1 (evenS n u).f2 = true := by
  show validS n u (2 * u) = true
  rw [validS_iff]; omega
theorem bet_slow {n u e b w : Int} (h0 : 1 ≤ u) (h1 : u ≤ 1000) (h2 : -u ≤ n) (h3 : n ≤ u) (he0 : -1000 ≤ e) (he1 : e ≤ 1000) (hb0 : 0 ≤ b) (hb : b ≤ 4) (hg : 1000 * n - u * e ≤ u) (hw0 : 0 ≤ w) (hw : w ≤ 8589934592) :
    betS e true b w (evenS n u) ≤ w + 2147484 := by
  unfold betS
  rw [factor_at (even_valid h0 h1 h2 h3) he0 he1 hb0 hb]
  show growS w (1000 * 8 * (2 * u) + (if true = true then b * (1000 * n - u * e) else _)) (1000 * 8 * (2 * u)) ≤ _
  rw [if_pos rfl]
  refine growS_le (by omega) ?_
  apply Int.ediv_le_of_le_mul (by omega)
  have g1 : b * (1000 * n - u * e) ≤ 4 * u := by
    have k1 : b * (1000 * n - u * e) ≤ b * u := Int.mul_le_mul_of_nonneg_left hg hb0
    have k2 : b * u ≤ 4 * u := Int.mul_le_mul_of_nonneg_right hb (by omega)
    omega
  generalize b * (1000 * n - u * e) = g at *
  have g2 : w * g ≤ w * (4 * u) := Int.mul_le_mul_of_nonneg_left g1 hw0
  have g3 : w * (4 * u) ≤ 8589934592 * (4 * u) := Int.mul_le_mul_of_nonneg_right hw (by omega)
  have e1 : w * (1000 * 8 * (2 * u) + g) = w * (16000 * u) + w * g := by rw [Int.mul_add]; congr 2; omega
  have e2 : (w + 2147484) * (1000 * 8 * (2 * u)) = w * (16000 * u) + 2147484 * (16000 * u) := by rw [show 1000 * 8 * (2 * u) = 16000 * u by omega, Int.add_mul]
  rw [e1, e2]
  omega
theorem path_slow {n u e thr : Int} (h0 : 1 ≤ u) (h1 : u ≤ 1000) (h2 : -u ≤ n) (h3 : n ≤ u) (he0 : -1000 ≤ e) (he1 : e ≤ 1000) (hg : 1000 * n - u * e ≤ u) (ht : 8589934592 < thr) : ∀ (k : Nat) (a b c m : Int), 0 ≤ a → a ≤ m → 0 ≤ b → b ≤ m → 0 ≤ c → c ≤ m → m + k * 2147484 ≤ 8589934592 →
    ∀ i : Nat, i < k → rd (pathS e true a b c (List.replicate k (evenS n u))) (i : Int) < thr
  | 0, _, _, _, _, _, _, _, _, _, _, _, i, hi => by omega
  | k + 1, a, b, c, m, ha0, ha, hb0, hb, hc0, hc, hm, i, hi => by
    have s1 := bet_slow (b := 1) h0 h1 h2 h3 he0 he1 (by decide) (by decide) hg ha0 (by omega)
    have s2 := bet_slow (b := 2) h0 h1 h2 h3 he0 he1 (by decide) (by decide) hg hb0 (by omega)
    have s4 := bet_slow (b := 4) h0 h1 h2 h3 he0 he1 (by decide) (by decide) hg hc0 (by omega)
    have r1 := betS_range e true 1 a (evenS n u)
    have r2 := betS_range e true 2 b (evenS n u)
    have r4 := betS_range e true 4 c (evenS n u)
    rw [List.replicate_succ]
    simp only [pathS]
    cases i with
    | zero =>
      show _ / 3 < thr
      omega
    | succ i =>
      rw [rd_cons]
      exact path_slow h0 h1 h2 h3 he0 he1 hg ht k _ _ _ (m + 2147484) r1.1 (by omega) r2.1 (by omega) r4.1 (by omega) (by omega) i (by omega)
theorem bet_fast {n u e w v : Int} (h0 : 1 ≤ u) (h1 : u ≤ 1000) (h2 : -u ≤ n) (h3 : n ≤ u) (he0 : -1000 ≤ e) (he1 : e ≤ 1000) (hg : 300 * u ≤ 1000 * n - u * e) (hv0 : 0 ≤ v) (hv : v ≤ w) (hw : w ≤ 2305843009213693952) :
    growS v 1075 1000 ≤ betS e true 4 w (evenS n u) := by
  unfold betS
  rw [factor_at (even_valid h0 h1 h2 h3) he0 he1 (by decide) (by decide)]
  show growS v 1075 1000 ≤ growS w (1000 * 8 * (2 * u) + (if true = true then 4 * (1000 * n - u * e) else _)) (1000 * 8 * (2 * u))
  rw [if_pos rfl]
  have ue : -1000 * u ≤ u * e ∧ u * e ≤ 1000 * u := by
    have k1 : u * e ≤ u * 1000 := Int.mul_le_mul_of_nonneg_left he1 (by omega)
    have k2 : u * (-1000) ≤ u * e := Int.mul_le_mul_of_nonneg_left he0 (by omega)
    omega
  generalize u * e = x at *
  have hd : 0 < 1000 * 8 * (2 * u) := by omega
  have q0 : v * 1075 / 1000 ≤ w * (1000 * 8 * (2 * u) + 4 * (1000 * n - x)) / (1000 * 8 * (2 * u)) := by
    apply Int.le_ediv_of_mul_le hd
    have q1 : v * 1075 / 1000 * 1000 ≤ v * 1075 := Int.ediv_mul_le _ (by decide)
    have q2 : v * (17200 * u) ≤ w * (17200 * u) := Int.mul_le_mul_of_nonneg_right hv (by omega)
    have q3 : w * (17200 * u) ≤ w * (1000 * 8 * (2 * u) + 4 * (1000 * n - x)) := Int.mul_le_mul_of_nonneg_left (by omega) (by omega)
    generalize v * 1075 / 1000 = q at *
    have q4 : (q * 1000) * (16 * u) ≤ (v * 1075) * (16 * u) := Int.mul_le_mul_of_nonneg_right q1 (by omega)
    have q5 : q * (1000 * 8 * (2 * u)) = (q * 1000) * (16 * u) := by rw [Int.mul_assoc q 1000 (16 * u)]; congr 1; omega
    have q6 : (v * 1075) * (16 * u) = v * (17200 * u) := by rw [Int.mul_assoc v 1075 (16 * u)]; congr 1; omega
    rw [q5]
    refine Int.le_trans q4 ?_
    rw [q6]
    exact Int.le_trans q2 q3
  generalize hX : w * (1000 * 8 * (2 * u) + 4 * (1000 * n - x)) / (1000 * 8 * (2 * u)) = X at q0
  generalize hY : v * 1075 / 1000 = Y at q0
  unfold growS
  rw [hX, hY]
  clear hX hY
  have c1 : ¬ (w < 0 ∨ 2305843009213693952 < w ∨ 1000 * 8 * (2 * u) < 1 ∨ 4611686018427387904 < 1000 * 8 * (2 * u) ∨ 1000 * 8 * (2 * u) + 4 * (1000 * n - x) < 0) := by omega
  have c2 : ¬ (v < 0 ∨ 2305843009213693952 < v ∨ (1000 : Int) < 1 ∨ (4611686018427387904 : Int) < 1000 ∨ (1075 : Int) < 0) := by omega
  rw [if_neg c1, if_neg c2]
  split <;> split <;> omega
def fastS : Nat → Int → Int
  | 0, v => v
  | k + 1, v => fastS k (growS v 1075 1000)
theorem path_fast {n u e : Int} (h0 : 1 ≤ u) (h1 : u ≤ 1000) (h2 : -u ≤ n) (h3 : n ≤ u) (he0 : -1000 ≤ e) (he1 : e ≤ 1000) (hg : 300 * u ≤ 1000 * n - u * e) : ∀ (k : Nat) (a b c v : Int), 0 ≤ v → v ≤ c → c ≤ 2305843009213693952 →
    fastS (k + 1) v / 3 ≤ rd (pathS e true a b c (List.replicate (k + 1) (evenS n u))) (k : Int)
  | 0, a, b, c, v, hv0, hv, hc => by
    have f := bet_fast h0 h1 h2 h3 he0 he1 hg hv0 hv hc
    have r1 := betS_range e true 1 a (evenS n u)
    have r2 := betS_range e true 2 b (evenS n u)
    show growS v 1075 1000 / 3 ≤ _ / 3
    omega
  | k + 1, a, b, c, v, hv0, hv, hc => by
    have f := bet_fast h0 h1 h2 h3 he0 he1 hg hv0 hv hc
    have r4 := betS_range e true 4 c (evenS n u)
    rw [List.replicate_succ]
    simp only [pathS]
    rw [rd_cons]
    exact path_fast h0 h1 h2 h3 he0 he1 hg k _ _ _ _ (growS_range _ _ _).1 f r4.2
theorem fast_all : fastS 300 4294967296 / 3 ≥ 171798691841 := by decide +kernel
theorem thr_in {v : Int} (h0 : 50 ≤ v) (h1 : v ≤ 949) : 8589934592 < thresholdS v 2 ∧ thresholdS v 2 ≤ 171798691841 := by
  unfold thresholdS
  rw [if_pos (by omega)]
  constructor
  · have : 8589934593 ≤ (2 * 4294967296000 + v - 1) / v := by
      apply Int.le_ediv_of_mul_le (by omega)
      omega
    omega
  · apply Int.ediv_le_of_le_mul (by omega)
    omega
theorem truth_low {n u v : Int} (h0 : 1 ≤ u) (h1 : u ≤ 1000) (h2 : -u ≤ n) (h3 : n ≤ u) (hv0 : 50 ≤ v) (hv1 : v ≤ 949) :
    lowS (thresholdS v 2) (List.replicate 300 (evenS n u)) 300 * u ≤ 1000 * n ∧ 1000 * n - 300 * u ≤ lowS (thresholdS v 2) (List.replicate 300 (evenS n u)) 300 * u := by
  obtain ⟨t0, t1⟩ := thr_in hv0 hv1
  generalize thresholdS v 2 = thr at *
  have hl : (List.replicate 300 (evenS n u)).length < 5864062014805 := by rw [List.length_replicate]; decide
  obtain ⟨s1, s2, s3⟩ := lowS_spec (thr := thr) (l := List.replicate 300 (evenS n u)) (kk := 300) (by decide) hl
  generalize hL : lowS thr (List.replicate 300 (evenS n u)) 300 = L at *
  constructor
  · have d1 := Int.mul_ediv_add_emod (1000 * n) u
    have d2 := Int.emod_nonneg (1000 * n) (show u ≠ 0 by omega)
    have d3 := Int.emod_lt_of_pos (1000 * n) (show 0 < u by omega)
    have e0 : -1000 ≤ 1000 * n / u := Int.le_ediv_of_mul_le (by omega) (by omega)
    have e1 : 1000 * n / u ≤ 1000 := Int.ediv_le_of_le_mul (by omega) (by omega)
    generalize 1000 * n / u = e at *
    have hx : exB thr true (List.replicate 300 (evenS n u)) 300 e = false := by
      cases hq : exB thr true (List.replicate 300 (evenS n u)) 300 e with
      | false => rfl
      | true =>
        obtain ⟨i, i1, _, i3⟩ := (exB_iff (by decide) hl).mp hq
        rw [List.length_replicate] at i1
        have := path_slow h0 h1 h2 h3 e0 e1 (by omega) t0 300 4294967296 4294967296 4294967296 4294967296 (by decide) (by decide) (by decide) (by decide) (by decide) (by decide) (by decide) i i1
        unfold wealthS at i3
        omega
    have hle : L ≤ e := by
      rcases Int.lt_or_le e L with c | c
      · have := (s3 e e0 e1).mpr c
        rw [hx] at this; cases this
      · exact c
    have := Int.mul_le_mul_of_nonneg_right hle (show 0 ≤ u by omega)
    rw [Int.mul_comm e u] at this
    omega
  · rcases Int.lt_or_le (L * u) (1000 * n - 300 * u) with c | c
    · exfalso
      have hL1 : L ≤ 1000 := by
        rcases Int.lt_or_le 1000 L with q | q
        · have := Int.mul_le_mul_of_nonneg_right (show (1001 : Int) ≤ L by omega) (show 0 ≤ u by omega)
          omega
        · exact q
      have f := path_fast (e := L) h0 h1 h2 h3 s1 hL1 (by rw [Int.mul_comm u L]; omega) 299 4294967296 4294967296 4294967296 4294967296 (by decide) (by decide) (by decide)
      have fa := fast_all
      have : exB thr true (List.replicate 300 (evenS n u)) 300 L = true := (exB_iff (by decide) hl).mpr ⟨299, by rw [List.length_replicate]; decide, by decide, by
        unfold wealthS
        refine Int.le_trans ?_ f
        exact Int.le_trans t1 fa⟩
      have := (s3 L s1 hL1).mp this
      omega
    · exact c
theorem even_flip (n u : Int) (k : Nat) : (List.replicate k (evenS n u)).map flipS = List.replicate k (evenS (-n) u) := by
  rw [List.map_replicate]; rfl
theorem truth_high {n u v : Int} (h0 : 1 ≤ u) (h1 : u ≤ 1000) (h2 : -u ≤ n) (h3 : n ≤ u) (hv0 : 50 ≤ v) (hv1 : v ≤ 949) :
    1000 * n ≤ highS (thresholdS v 2) (List.replicate 300 (evenS n u)) 300 * u ∧ highS (thresholdS v 2) (List.replicate 300 (evenS n u)) 300 * u ≤ 1000 * n + 300 * u := by
  have h := truth_low (n := -n) h0 h1 (by omega) (by omega) hv0 hv1
  rw [← even_flip, low_flip, Int.neg_mul] at h
  omega
end Go.Proofs.Ytdclcdaoidbgbaa.PA
