/- Predictions lie between 0 and the cap; a score's numbers as they are, and that it is valid. -/
import Derived.Test.YtdmhdbebjjhopaaA4
namespace Go.Proofs.Ytdmhdbebjjhopaa.PA
open Go Go.RowKit Go.Proofs.YtdmhdbebjjhopaaW.PrintWords Go.Proofs.YtdmhdbebjjhopaaW.PrintLast Go.Proofs.YtdmhdbebjjhopaaW.PrintMore Go.Proofs.Ytdmhdbebjjhopaa.M
set_option linter.unusedVariables false
set_option linter.unusedSimpArgs false

theorem acc_in {p : S34 → Bool} {cap : Int} (h4 : 1 ≤ cap) (h5 : cap ≤ 1048576) : ∀ (l : List S34) (n s : Int), (∀ x ∈ l, 0 ≤ x.f1 ∧ x.f1 ≤ cap) → 0 ≤ n → 0 ≤ s → s ≤ n * cap → n + l.length ≤ 1000000 →
    0 ≤ (accS p l n s).1 ∧ (accS p l n s).1 ≤ n + l.length ∧ 0 ≤ (accS p l n s).2 ∧ (accS p l n s).2 ≤ (accS p l n s).1 * cap
  | [], n, s, _, hn, h0, hs, _ => by
    simp only [accS, List.length_nil]
    exact ⟨hn, by omega, h0, hs⟩
  | x :: l, n, s, hx, hn, h0, hs, hl => by
    have hx0 := hx x (List.mem_cons_self ..)
    have hx' : ∀ y ∈ l, 0 ≤ y.f1 ∧ y.f1 ≤ cap := fun y hy => hx y (List.mem_cons_of_mem _ hy)
    simp only [accS, List.length_cons] at hl ⊢
    have hb := (mul_le (x := n) (y := cap) (a := 1000000) (b := 1048576) hn (by omega) (by omega) h5).2
    by_cases c : p x = true
    · rw [if_pos c]
      have e : (n + 1) * cap = n * cap + cap := by rw [Int.add_mul, Int.one_mul]
      have w1 : wrap64 (n + 1) = n + 1 := w64_id (by omega) (by omega)
      have w2 : wrap64 (s + x.f1) = s + x.f1 := w64_id (by omega) (by omega)
      rw [w1, w2]
      have := acc_in (p := p) h4 h5 l (n + 1) (s + x.f1) hx' (by omega) (by omega) (by omega) (by omega)
      exact ⟨this.1, by omega, this.2.2⟩
    · rw [if_neg c]
      have := acc_in (p := p) h4 h5 l n s hx' hn h0 hs (by omega)
      exact ⟨this.1, by omega, this.2.2⟩
theorem floor_in {n s cap : Int} (hn : 0 < n) (hn1 : n ≤ 1000000) (h0 : 0 ≤ s) (hs : s ≤ n * cap) (h4 : 1 ≤ cap) (h5 : cap ≤ 1048576) : 0 ≤ floorS s n ∧ floorS s n ≤ cap := by
  have hb := (mul_le (x := n) (y := cap) (a := 1000000) (b := 1048576) (by omega) (by omega) hn1 h5).2
  rw [floorS_nonneg h0 (by omega) hn]
  refine ⟨Int.ediv_nonneg h0 (by omega), ?_⟩
  apply Int.ediv_le_of_le_mul hn
  rw [Int.mul_comm]; exact hs
theorem predict_in {s : List S34} {i : Nat} {cap : Int} (h4 : 1 ≤ cap) (h5 : cap ≤ 1048576) (hi : i ≤ 1000000) (hx : ∀ x ∈ s.take i, 0 ≤ x.f1 ∧ x.f1 ≤ cap) (arm : Int) : 0 ≤ predictS s i arm cap ∧ predictS s i arm cap ≤ cap := by
  unfold predictS
  by_cases h : 0 ≤ (i : Int) ∧ (i : Int) < s.length
  · rw [if_pos h, Int.toNat_natCast]
    have hl : (s.take i).length ≤ 1000000 := by rw [List.length_take]; omega
    unfold predS
    generalize classS (rd_T34 s i).f3 = cls
    have a1 := acc_in (p := fitS true arm cls) h4 h5 (s.take i) 0 0 hx (by decide) (by decide) (by simp) (by omega)
    have a2 := acc_in (p := fitS false arm cls) h4 h5 (s.take i) 0 0 hx (by decide) (by decide) (by simp) (by omega)
    by_cases c1 : (accS (fitS true arm cls) (s.take i) 0 0).1 > 0
    · rw [if_pos c1]; exact floor_in c1 (by omega) a1.2.2.1 a1.2.2.2 h4 h5
    · rw [if_neg c1]
      by_cases c2 : (accS (fitS false arm cls) (s.take i) 0 0).1 > 0
      · rw [if_pos c2]; exact floor_in c2 (by omega) a2.2.2.1 a2.2.2.2 h4 h5
      · rw [if_neg c2, floorS_nonneg (by omega) (by omega) (by decide)]; omega
  · rw [if_neg h]; omega
/-- A product with a difference of two numbers between 0 and the cap. -/
theorem mul_diff {a x y cap : Int} (ha : 0 ≤ a) (hx0 : 0 ≤ x) (hx : x ≤ cap) (hy0 : 0 ≤ y) (hy : y ≤ cap) : -(a * cap) ≤ a * (x - y) ∧ a * (x - y) ≤ a * cap := by
  have h1 : a * (x - y) ≤ a * cap := Int.mul_le_mul_of_nonneg_left (by omega) ha
  have h2 : a * (-cap) ≤ a * (x - y) := Int.mul_le_mul_of_nonneg_left (by omega) ha
  rw [Int.mul_neg] at h2
  exact ⟨h2, h1⟩
/-- The number of a score, without wraps, and how great it is. -/
theorem num_plain {arm y p1 p2 c t cap : Int} (h0 : 1 ≤ c) (h1 : c ≤ 10000) (h2 : 1 ≤ t) (h3 : t ≤ 10000) (h4 : 1 ≤ cap) (h5 : cap ≤ 1048576)
    (y0 : 0 ≤ y) (y1 : y ≤ cap) (a0 : 0 ≤ p1) (a1 : p1 ≤ cap) (b0 : 0 ≤ p2) (b1 : p2 ≤ cap) :
    numS arm y p1 p2 c t = (if arm = 1 then c * t * (p2 - p1) - (c + t) * t * (y - p1) else c * t * (p2 - p1) + (c + t) * c * (y - p2)) ∧
    c * t * cap - cap * (2 * (c * t) + (c + t) * mx c t) ≤ numS arm y p1 p2 c t ∧ numS arm y p1 p2 c t ≤ cap * (2 * (c * t) + (c + t) * mx c t) - c * t * cap := by
  have mc : c ≤ mx c t ∧ t ≤ mx c t ∧ mx c t ≤ 10000 := by unfold mx; split <;> omega
  have p := mul_le (x := c) (y := t) (a := 10000) (b := 10000) (by omega) (by omega) h1 h3
  have s1 : (c + t) * t ≤ (c + t) * mx c t := Int.mul_le_mul_of_nonneg_left mc.2.1 (by omega)
  have s2 : (c + t) * c ≤ (c + t) * mx c t := Int.mul_le_mul_of_nonneg_left mc.1 (by omega)
  have s3 : 0 ≤ (c + t) * t := Int.mul_nonneg (by omega) (by omega)
  have s4 : 0 ≤ (c + t) * c := Int.mul_nonneg (by omega) (by omega)
  have s5 := (mul_le (x := c + t) (y := mx c t) (a := 20000) (b := 10000) (by omega) (by omega) (by omega) mc.2.2).2
  have e1 : wrap64 (c * t) = c * t := w64_id (by omega) (by omega)
  have e2 : wrap64 (c + t) = c + t := w64_id (by omega) (by omega)
  have e3 : wrap64 ((c + t) * t) = (c + t) * t := w64_id (by omega) (by omega)
  have e4 : wrap64 ((c + t) * c) = (c + t) * c := w64_id (by omega) (by omega)
  have d1 : wrap64 (p2 - p1) = p2 - p1 := w64_id (by omega) (by omega)
  have d2 : wrap64 (y - p1) = y - p1 := w64_id (by omega) (by omega)
  have d3 : wrap64 (y - p2) = y - p2 := w64_id (by omega) (by omega)
  have er : cap * (2 * (c * t) + (c + t) * mx c t) = 2 * (c * t * cap) + (c + t) * mx c t * cap := by
    rw [Int.mul_add, Int.mul_comm cap ((c + t) * mx c t), Int.mul_comm cap (2 * (c * t)), Int.mul_assoc 2]
  unfold numS
  rw [e1, e2, e3, e4, d1, d2, d3, er]
  have q1 := mul_diff (a := c * t) p.1 b0 b1 a0 a1
  have q2 := mul_diff (a := (c + t) * t) s3 y0 y1 a0 a1
  have q3 := mul_diff (a := (c + t) * c) s4 y0 y1 b0 b1
  have r2 : (c + t) * t * cap ≤ (c + t) * mx c t * cap := Int.mul_le_mul_of_nonneg_right s1 (by omega)
  have r3 : (c + t) * c * cap ≤ (c + t) * mx c t * cap := Int.mul_le_mul_of_nonneg_right s2 (by omega)
  have r1 := (mul_le (x := c * t) (y := cap) (a := 100000000) (b := 1048576) p.1 (by omega) (by omega) h5).2
  have r4 := (mul_le (x := (c + t) * mx c t) (y := cap) (a := 200000000) (b := 1048576) (by omega) (by omega) (by omega) h5).2
  generalize c * t * (p2 - p1) = u1 at *
  generalize (c + t) * t * (y - p1) = u2 at *
  generalize (c + t) * c * (y - p2) = u3 at *
  generalize c * t * cap = v1 at *
  generalize (c + t) * t * cap = v2 at *
  generalize (c + t) * c * cap = v3 at *
  generalize (c + t) * mx c t * cap = v4 at *
  have w1 : wrap64 u1 = u1 := w64_id (by omega) (by omega)
  have w2 : wrap64 u2 = u2 := w64_id (by omega) (by omega)
  have w3 : wrap64 u3 = u3 := w64_id (by omega) (by omega)
  rw [w1, w2, w3, w64_id (x := u1 - u2) (by omega) (by omega), w64_id (x := u1 + u3) (by omega) (by omega)]
  refine ⟨rfl, ?_, ?_⟩ <;> split <;> omega
theorem ok_iff {s : List S34} {i c t cap : Int} (h : okS s i c t cap = true) : (0 ≤ i ∧ i < s.length ∧ 1 ≤ c ∧ c ≤ 10000 ∧ 1 ≤ t ∧ t ≤ 10000 ∧ 1 ≤ cap ∧ cap ≤ 1048576) ∧ (∀ x ∈ s.take (i.toNat + 1), 0 ≤ x.f1 ∧ x.f1 ≤ cap) ∧ ((rd_T34 s i).f0.f4 = 1 ∨ (rd_T34 s i).f0.f4 = 2) := by
  unfold okS at h
  simp only [Bool.and_eq_true, decide_eq_true_eq, List.all_eq_true] at h
  exact ⟨h.1.1, h.1.2, h.2⟩
theorem take_sub {s : List S34} {i : Nat} {P : S34 → Prop} (h : ∀ x ∈ s.take (i + 1), P x) : ∀ x ∈ s.take i, P x := fun x hx => h x (List.take_subset_take_left s (Nat.le_succ i) hx)
/-- What there is to tell of a score that there is: with p1, p2 the predictions, or 0. -/
theorem of_good {s : List S34} {i c t cap : Int} {adj : Bool} (hl : s.length ≤ 1000000) (h : okS s i c t cap = true) : ∃ p1 p2, 0 ≤ p1 ∧ p1 ≤ cap ∧ 0 ≤ p2 ∧ p2 ≤ cap ∧ p1 = (if adj = true then predictS s i 1 cap else 0) ∧ p2 = (if adj = true then predictS s i 2 cap else 0) ∧
    ofS s i c t cap adj = (if (rd_T34 s i).f0.f4 = 1 then c * t * (p2 - p1) - (c + t) * t * ((rd_T34 s i).f1 - p1) else c * t * (p2 - p1) + (c + t) * c * ((rd_T34 s i).f1 - p2), c * t * cap, cap * (2 * (c * t) + (c + t) * (mx c t)), true) ∧
    1 ≤ (ofS s i c t cap adj).2.1 ∧ (ofS s i c t cap adj).2.1 ≤ (ofS s i c t cap adj).2.2.1 ∧ (ofS s i c t cap adj).2.2.1 ≤ 562949953421312 ∧ (ofS s i c t cap adj).2.1 - (ofS s i c t cap adj).2.2.1 ≤ (ofS s i c t cap adj).1 ∧ (ofS s i c t cap adj).1 ≤ (ofS s i c t cap adj).2.2.1 - (ofS s i c t cap adj).2.1 := by
  obtain ⟨⟨i0, i1, h0, h1, h2, h3, h4, h5⟩, hx, ha⟩ := ok_iff h
  obtain ⟨j, rfl⟩ := Int.eq_ofNat_of_zero_le i0
  rw [Int.toNat_natCast] at hx
  have hj : j < s.length := by omega
  have pr := fun arm => predict_in (s := s) (i := j) h4 h5 (by omega) (take_sub hx) arm
  have hp : ∀ arm, 0 ≤ (if adj = true then predictS s (j : Int) arm cap else 0) ∧ (if adj = true then predictS s (j : Int) arm cap else 0) ≤ cap := fun arm => by
    have := pr arm
    split <;> omega
  have hv : 0 ≤ (rd_T34 s j).f1 ∧ (rd_T34 s j).f1 ≤ cap := by
    rw [rd_T hj]
    refine hx _ ?_
    rw [List.mem_take_iff_getElem]
    exact ⟨j, by omega, rfl⟩
  have n := num_plain (arm := (rd_T34 s j).f0.f4) h0 h1 h2 h3 h4 h5 hv.1 hv.2 (hp 1).1 (hp 1).2 (hp 2).1 (hp 2).2
  have b := parts_in h0 h1 h2 h3 h4 h5
  refine ⟨_, _, (hp 1).1, (hp 1).2, (hp 2).1, (hp 2).2, rfl, rfl, ?_⟩
  have e : ofS s (j : Int) c t cap adj = (numS (rd_T34 s (j : Int)).f0.f4 (rd_T34 s (j : Int)).f1 (if adj = true then predictS s (j : Int) 1 cap else 0) (if adj = true then predictS s (j : Int) 2 cap else 0) c t, c * t * cap, cap * (2 * (c * t) + (c + t) * (mx c t)), true) := by
    unfold ofS; rw [if_pos h]
  rw [e]
  refine ⟨by rw [n.1], ?_, ?_, ?_, ?_, ?_⟩
  · simp only; omega
  · simp only
    have h1' := b.1
    have er : cap * (2 * (c * t) + (c + t) * mx c t) = 2 * (c * t * cap) + (c + t) * mx c t * cap := by
      rw [Int.mul_add, Int.mul_comm cap ((c + t) * mx c t), Int.mul_comm cap (2 * (c * t)), Int.mul_assoc 2]
    have : 0 ≤ (c + t) * mx c t * cap := Int.mul_nonneg (by omega) (by omega)
    omega
  · simp only; omega
  · exact n.2.1
  · exact n.2.2
end Go.Proofs.Ytdmhdbebjjhopaa.PA
