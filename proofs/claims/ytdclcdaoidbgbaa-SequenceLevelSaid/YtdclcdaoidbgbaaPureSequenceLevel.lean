/- The true effect of a population is excluded at most as often as the level says. No condition. -/
import Derived.Test.YtdclcdaoidbgbaaPA21
import Derived.Test.YtdclcdaoidbgbaaLALL
import Derived.Test.YtdclcdaoidbgbaaQ4
namespace Go.Proofs.Ytdclcdaoidbgbaa.Pure
open Go Go.RowKit Go.Proofs.Ytdclcdaoidbgbaa.PA Go.Proofs.YtdclcdaoidbgbaaW.PrintWords Go.Proofs.YtdclcdaoidbgbaaW.PrintLast Go.Proofs.YtdclcdaoidbgbaaW.PrintMore Go.Proofs.Ytdclcdaoidbgbaa.M
set_option linter.unusedVariables false
set_option linter.unusedSimpArgs false

theorem sum_in : ∀ K : List S36, K.length ≤ sumK numK K ∧ sumK numK K ≤ 3 * K.length
  | [] => ⟨Int.le_refl _, Int.le_refl _⟩
  | k :: K => by
    have := sum_in K
    have := num_pos k
    simp only [sumK, List.length_cons]
    omega
/-- What a kind adds to the sum of the effects. -/
def effK (k : S36) : Int := numK k * (twoK k - oneK k)
theorem eff_in (k : S36) : -20 * numK k ≤ effK k ∧ effK k ≤ 20 * numK k := by
  have n := num_pos k
  have h1 : 0 ≤ oneK k ∧ oneK k ≤ 20 := by unfold oneK; omega
  have h2 : 0 ≤ twoK k ∧ twoK k ≤ 20 := by unfold twoK; omega
  unfold effK
  have a : numK k * (twoK k - oneK k) ≤ numK k * 20 := Int.mul_le_mul_of_nonneg_left (by omega) (by omega)
  have b : numK k * (-20) ≤ numK k * (twoK k - oneK k) := Int.mul_le_mul_of_nonneg_left (by omega) (by omega)
  omega
theorem sum_eff : ∀ K : List S36, -20 * sumK numK K ≤ sumK effK K ∧ sumK effK K ≤ 20 * sumK numK K
  | [] => ⟨Int.le_refl _, Int.le_refl _⟩
  | k :: K => by
    have := sum_eff K
    have := eff_in k
    simp only [sumK]
    omega
theorem gain_zero {c t e : Int} (K : List S36) (h : sumK effK K * 50 = sumK numK K * e) : sumK (fun k => numK k * gainK c t e oneK twoK k) K = 0 := by
  have e1 : sumK (fun k => numK k * gainK c t e oneK twoK k) K = sumK (fun k => effK k * (1000 * (c * t * (c + t))) + numK k * (-((c + t) * (c * t * 20) * e))) K := sumK_congr K (fun k _ => by unfold gainK effK; grind)
  rw [e1, sumK_add, ← sumK_mul, ← sumK_mul]
  have : sumK effK K * (1000 * (c * t * (c + t))) = (sumK effK K * 50) * (20 * (c * t * (c + t))) := by grind
  rw [this, h]
  grind
theorem effK_is {k : S36} (hk : KindIn k) : wrap64 (wrap64 (1 + Int.tmod (wrap64 k.f0) 3) * wrap64 (Int.tmod (wrap64 k.f3) 21 - Int.tmod (wrap64 k.f2) 21)) = effK k := by
  have e := eff_in k
  have n := num_pos k
  rw [num_is hk]
  obtain ⟨_, _, h2, h3⟩ := hk
  rw [w64_id (x := k.f3) (by omega) (by omega), w64_id (x := k.f2) (by omega) (by omega), Int.tmod_eq_emod_of_nonneg h2.1, Int.tmod_eq_emod_of_nonneg h3.1, w64_id (x := _ - _) (by omega) (by omega)]
  show wrap64 (effK k) = effK k
  exact w64_id (by omega) (by omega)
theorem lev_step {sum ek er S T tr tot nk : Int} {d : Nat} (hs : sum + (ek + er) = S) (hS : -20 * T ≤ S ∧ S ≤ 20 * T) (hT : T ≤ 6) (he : -20 * tr ≤ er ∧ er ≤ 20 * tr) (htr : (d : Int) ≤ tr ∧ tr ≤ 3 * d) (hd : d ≤ 1) (ht : tot + (nk + tr) = T) (h0 : 0 ≤ tot) (hn : 1 ≤ nk ∧ nk ≤ 3) :
    -1000 ≤ sum + ek ∧ sum + ek ≤ 1000 ∧ sum + ek + er = S ∧ tot + nk ≤ 6 ∧ tot + nk + tr = T := by omega
section
variable {c t L : Int} {adj : Bool} {K : List S36} {n : Nat}
theorem lev_l1 {e : Int} (hc : 1 ≤ c ∧ c ≤ 3) (ht : 1 ≤ t ∧ t ≤ 3) (he0 : -1000 ≤ e) (he1 : e ≤ 1000) (hL : 400 ≤ L ∧ L ≤ 910) (hK : ∀ k ∈ K, KindIn k) (hKl : K.length ≤ 2) (hP : 1 ≤ allP c t K) (hT : sumK numK K ≤ 1000) (hn : n ≤ 6) (hB : ∀ r : Nat, r ≤ n → allP c t K ^ r ≤ 100000000)
    (h0 : sumK (fun k => numK k * gainK c t e oneK twoK k) K = 0) : ∀ m i : Nat, i + m = n → Ev (fun k => flagstonelaw41_SequenceLevel.l1 k (n : Int) (allP c t K ^ i) (i : Int) K (sumK numK K) c t e L adj) true := by
  have hT0 := sum_num_nonneg K
  have hq := mul_le (x := sumK numK K) (y := c + t) (a := 1000) (b := 6) hT0 (by omega) hT (by omega)
  have hw : wrap64 (sumK numK K * wrap64 (c + t)) = allP c t K := by rw [w64_id (x := c + t) (by omega) (by omega), w64_id (by omega) (by omega)]; rfl
  intro m
  induction m with
  | zero =>
    intro i hi
    obtain rfl : i = n := by omega
    have b := hB i (Nat.le_refl _)
    have p0 : 0 ≤ allP c t K ^ i := Int.pow_nonneg (by omega)
    have ms := miss_in (thr := thresholdS L 2) (e := e) (adj := adj) (K := K) hc.1 ht.1 i []
    have lv := level_holds (K := K) (adj := adj) (L := L) (by omega) (by omega) hc ht he0 he1 h0 i (by omega)
    have q := mul_le (x := L) (y := allP c t K ^ i) (a := 910) (b := 100000000) (by omega) p0 hL.2 b
    refine Ev.step (fun k => by simp only [flagstonelaw41_SequenceLevel.l1]; rfl) ?_
    refine Ev.neg (by omega) (Ev.bind (misses_is hc ht he0 he1 hK hKl hP hT hn hB i [] (by simp) (fun y hy => by cases hy)) ?_)
    rw [w64_id (x := _ * 1000) (by omega) (by omega), w64_id (x := L * _) (by omega) (by omega), decide_eq_true lv]
    exact Ev.now _
  | succ m ih =>
    intro i hi
    have hwi : wrap64 ((i : Int) + 1) = ((i + 1 : Nat) : Int) := by rw [w64_id (by omega) (by omega)]; omega
    have b := hB (i + 1) (by omega)
    have p0 : 0 ≤ allP c t K ^ (i + 1) := Int.pow_nonneg (by omega)
    have next := ih (i + 1) (by omega)
    rw [Int.pow_succ] at b p0 next
    refine Ev.step (fun k => by simp only [flagstonelaw41_SequenceLevel.l1]; rfl) ?_
    rw [hw, hwi, w64_id (x := allP c t K ^ i * allP c t K) (by omega) (by omega)]
    exact Ev.pos (by omega) next
theorem lev_l0 (hc : 1 ≤ c ∧ c ≤ 3) (ht : 1 ≤ t ∧ t ≤ 3) (hL : 400 ≤ L ∧ L ≤ 910) (hK : ∀ k ∈ K, KindIn k) (hKl : 1 ≤ K.length ∧ K.length ≤ 2) (hn : n ≤ 6) (hB : ∀ r : Nat, r ≤ n → allP c t K ^ r ≤ 100000000) :
    ∀ (m i : Nat) (sum tot : Int), i + m = K.length → -1000 ≤ sum → sum ≤ 1000 → sum + sumK effK (K.drop i) = sumK effK K → 0 ≤ tot → tot + sumK numK (K.drop i) = sumK numK K →
    Ev (fun k => flagstonelaw41_SequenceLevel.l0 k (n : Int) sum (i : Int) K tot c t 0 L adj) true := by
  have T := sum_in K
  have E := sum_eff K
  intro m
  induction m with
  | zero =>
    intro i sum tot hi s0 s1 hs t0 htot
    rw [List.drop_of_length_le (by omega)] at hs htot
    simp only [sumK, Int.add_zero] at hs htot
    subst hs htot
    have hP : 1 ≤ allP c t K := by
      have := Int.mul_le_mul (show (1 : Int) ≤ sumK numK K by omega) (show (1 : Int) ≤ c + t by omega) (by decide) (by omega)
      unfold allP
      omega
    have w1 : wrap64 (sumK effK K * 50) = sumK effK K * 50 := w64_id (by omega) (by omega)
    refine Ev.step (fun k => by simp only [flagstonelaw41_SequenceLevel.l0]; rfl) ?_
    rw [w1]
    refine Ev.neg (by omega) (Ev.neg (by omega) (Ev.both (fun hd => ?_) (fun _ => Ev.now _)))
    have hd2 : sumK numK K * Int.tdiv (sumK effK K * 50) (sumK numK K) = sumK effK K * 50 := by
      have := Int.mul_tdiv_add_tmod (sumK effK K * 50) (sumK numK K)
      rw [hd, Int.add_zero] at this
      exact this
    generalize Int.tdiv (sumK effK K * 50) (sumK numK K) = e at hd2 ⊢
    have he0 : -1000 ≤ e := by
      rcases Int.lt_or_le e (-1000) with q | q
      · have := Int.mul_le_mul_of_nonneg_left (show e ≤ -1001 by omega) (show 0 ≤ sumK numK K by omega)
        omega
      · exact q
    have he1 : e ≤ 1000 := by
      rcases Int.lt_or_le 1000 e with q | q
      · have := Int.mul_le_mul_of_nonneg_left (show 1001 ≤ e by omega) (show 0 ≤ sumK numK K by omega)
        omega
      · exact q
    rw [w64_id (x := e) (by omega) (by omega)]
    have := lev_l1 (adj := adj) (L := L) (n := n) hc ht he0 he1 hL hK hKl.2 hP (by omega) hn hB (gain_zero K hd2.symm) n 0 (by omega)
    rw [Int.pow_zero] at this
    exact this
  | succ m ih =>
    intro i sum tot hi s0 s1 hs t0 htot
    have hlt : i < K.length := by omega
    have hwi : wrap64 ((i : Int) + 1) = ((i + 1 : Nat) : Int) := by rw [w64_id (by omega) (by omega)]; omega
    have hk := hK _ (List.getElem_mem hlt)
    have rt := rd_K hlt
    rw [List.drop_eq_getElem_cons hlt] at hs htot
    simp only [sumK] at hs htot
    have lr : (K.drop (i + 1)).length ≤ 1 := by rw [List.length_drop]; clear hs htot rt E T s0 s1; omega
    obtain ⟨b1, b2, b3, b4, b5⟩ := lev_step hs E (by clear hs htot rt E s0 s1; omega) (sum_eff (K.drop (i + 1))) (sum_in (K.drop (i + 1))) lr htot t0 (num_pos _)
    generalize K[i] = k at rt hk b1 b2 b3 b4 b5
    refine Ev.step (fun k => by simp only [flagstonelaw41_SequenceLevel.l0]; rfl) ?_
    have d1 : (i : Int) < K.length := by clear b1 b2 b3 b4 b5 hs htot rt E T s0 s1; omega
    have d0 : 0 ≤ (i : Int) := Int.natCast_nonneg i
    have nk := num_pos k
    rw [rt, effK_is hk, num_is hk, hwi, w64_id (x := sum + effK k) (by clear hs htot rt E T s0 s1; omega) (by clear hs htot rt E T s0 s1; omega), w64_id (x := tot + numK k) (by clear hs htot rt E T s0 s1; omega) (by clear hs htot rt E T s0 s1; omega)]
    exact Ev.pos d1 (Ev.pos d0 (ih (i + 1) _ _ (by clear b1 b2 b3 b4 b5 hs htot rt E T s0 s1; omega) b1 b2 b3 (by clear hs htot rt E T s0 s1; omega) b5))
end
theorem pow_most {P B : Int} (h0 : 1 ≤ P) (h1 : P ≤ B) : ∀ r n : Nat, r ≤ n → P ^ r ≤ B ^ n
  | 0, n, _ => by
    rw [Int.pow_zero]
    have : 0 < B ^ n := Int.pow_pos (by omega)
    omega
  | r + 1, 0, h => by omega
  | r + 1, n + 1, h => by
    rw [Int.pow_succ, Int.pow_succ]
    exact Int.mul_le_mul (pow_most h0 h1 r n (by omega)) h1 (by omega) (Int.pow_nonneg (by omega))
theorem SequenceLevel : flagstonelaw41_SequenceLevel.Pure := by
  intro p0 p1 p2 p3 q0 q1 q2 q3 one c0 t0 l0 adj a0 a1 a2 a3 b0 b1 b2 b3 wc wt wl
  apply Ev.rounds
  unfold flagstonelaw41_SequenceLevel.f
  obtain ⟨c1, c2⟩ := u8_of wc
  obtain ⟨t1, t2⟩ := u8_of wt
  obtain ⟨l1, l2⟩ := u8_of wl
  have ec : wrap64 (1 + Int.tmod (wrap64 c0) 3) = 1 + c0 % 3 := by rw [w64_id (x := c0) (by omega) (by omega), Int.tmod_eq_emod_of_nonneg c1, w64_id (by omega) (by omega)]
  have et : wrap64 (1 + Int.tmod (wrap64 t0) 3) = 1 + t0 % 3 := by rw [w64_id (x := t0) (by omega) (by omega), Int.tmod_eq_emod_of_nonneg t1, w64_id (by omega) (by omega)]
  have el : wrap64 (400 + wrap64 (wrap64 l0 * 2)) = 400 + l0 * 2 := by rw [w64_id (x := l0) (by omega) (by omega), w64_id (x := l0 * 2) (by omega) (by omega), w64_id (by omega) (by omega)]
  rw [ec, et, el]
  have hc : 1 ≤ 1 + c0 % 3 ∧ 1 + c0 % 3 ≤ 3 := by omega
  have ht : 1 ≤ 1 + t0 % 3 ∧ 1 + t0 % 3 ≤ 3 := by omega
  have hL : 400 ≤ 400 + l0 * 2 ∧ 400 + l0 * 2 ≤ 910 := by omega
  generalize 1 + c0 % 3 = c at *
  generalize 1 + t0 % 3 = t at *
  generalize 400 + l0 * 2 = L at *
  have ka : KindIn (⟨p0, p1, p2, p3⟩ : S36) := ⟨u8_of a0, u8_of a1, u8_of a2, u8_of a3⟩
  have kb : KindIn (⟨q0, q1, q2, q3⟩ : S36) := ⟨u8_of b0, u8_of b1, u8_of b2, u8_of b3⟩
  have go : ∀ (K : List S36) (n : Nat), (∀ k ∈ K, KindIn k) → 1 ≤ K.length → (K.length = 1 ∧ n = 6 ∨ K.length = 2 ∧ n = 4) → Ev (fun k => flagstonelaw41_SequenceLevel.j1 k (n : Int) K 0 c t 0 L adj) true := by
    intro K n hK h1 hn
    have T := sum_in K
    have hP1 : 1 ≤ allP c t K := by
      have := Int.mul_le_mul (show (1 : Int) ≤ sumK numK K by omega) (show (1 : Int) ≤ c + t by omega) (by decide) (by omega)
      unfold allP
      omega
    have hB : ∀ r : Nat, r ≤ n → allP c t K ^ r ≤ 100000000 := fun r hr => by
      rcases hn with ⟨k1, rfl⟩ | ⟨k1, rfl⟩
      · have hP : allP c t K ≤ 18 := by
          have := (mul_le (x := sumK numK K) (y := c + t) (a := 3) (b := 6) (by omega) (by omega) (by omega) (by omega)).2
          exact this
        exact Int.le_trans (pow_most hP1 hP r 6 hr) (by decide)
      · have hP : allP c t K ≤ 36 := by
          have := (mul_le (x := sumK numK K) (y := c + t) (a := 6) (b := 6) (by omega) (by omega) (by omega) (by omega)).2
          exact this
        exact Int.le_trans (pow_most hP1 hP r 4 hr) (by decide)
    refine Ev.step (fun k => by simp only [flagstonelaw41_SequenceLevel.j1]; rfl) ?_
    exact lev_l0 hc ht hL hK ⟨h1, by omega⟩ (by omega) hB K.length 0 0 0 (by omega) (by decide) (by decide) (by rw [List.drop_zero]; omega) (by decide) (by rw [List.drop_zero]; omega)
  refine Ev.bind awake41_is (Ev.pos rfl ?_)
  refine Ev.step (fun k => by simp only [flagstonelaw41_SequenceLevel.j0]; rfl) ?_
  refine Ev.both (fun _ => Ev.pos (by simp only [List.length_cons, List.length_nil]; omega) ?_) (fun _ => ?_)
  · exact go [⟨p0, p1, p2, p3⟩] 6 (fun k hk => by rw [List.mem_singleton] at hk; subst hk; exact ka) (Nat.le_refl 1) (.inl ⟨rfl, rfl⟩)
  · refine go [⟨p0, p1, p2, p3⟩, ⟨q0, q1, q2, q3⟩] 4 (fun k hk => ?_) (Nat.le_succ 1) (.inr ⟨rfl, rfl⟩)
    rcases List.mem_cons.mp hk with rfl | hk
    · exact ka
    · rw [List.mem_singleton] at hk; subst hk; exact kb
end Go.Proofs.Ytdclcdaoidbgbaa.Pure
