/- The scores of a population's samples, what they gain on average, and how often the true effect is excluded. -/
import Derived.Test.YtdclcdaoidbgbaaPA17
import Derived.Test.YtdclcdaoidbgbaaM2
import Derived.Test.YtdclcdaoidbgbaaM3
import Derived.Test.YtdclcdaoidbgbaaPA18
import Derived.Test.YtdclcdaoidbgbaaPA1
import Derived.Test.YtdclcdaoidbgbaaPA19
import Derived.Test.YtdclcdaoidbgbaaQ2
import Derived.Test.YtdclcdaoidbgbaaPA20
namespace Go.Proofs.Ytdclcdaoidbgbaa.PA
open Go Go.RowKit Go.Proofs.YtdclcdaoidbgbaaW.PrintWords Go.Proofs.YtdclcdaoidbgbaaW.PrintLast Go.Proofs.YtdclcdaoidbgbaaW.PrintMore Go.Proofs.Ytdclcdaoidbgbaa.M
set_option linter.unusedVariables false
set_option linter.unusedSimpArgs false

/-! The class: the number of bits. -/
def classS (x : Int) : Int := (score_Class.f 2 x).getD 0
theorem wrap_mx (x : Int) : 0 ≤ IntKind.u64.wrap (mx x 0) ∧ IntKind.u64.wrap (mx x 0) < 18446744073709551616 := by rw [u64]; omega
theorem class_len (x : Int) : ∃ n : Nat, classS x = n ∧ n ≤ 64 ∧ IsLen (IntKind.u64.wrap (mx x 0)) n ∧ Ev (fun k => score_Class.f k x) (classS x) := by
  obtain ⟨h0, h1⟩ := wrap_mx x
  obtain ⟨n, e, hn, hl⟩ := len64 0 _ h0 h1
  have e2 : score_Class.f 2 x = some (n : Int) := by
    unfold score_Class.f bits_Len.f
    rw [e]; rfl
  have e3 : classS x = (n : Int) := by unfold classS; rw [e2]; rfl
  exact ⟨n, e3, hn, hl, by rw [e3]; exact Ev.of (fun k => score_Class.mono _ k) e2⟩
theorem Class_is (x : Int) : Ev (fun k => score_Class.f k x) (classS x) := by
  obtain ⟨n, _, _, _, h⟩ := class_len x
  exact h
theorem class_zero {x : Int} (h : x ≤ 0) : classS x = 0 := by
  unfold classS score_Class.f
  rw [show IntKind.u64.wrap (mx x 0) = 0 by rw [u64]; unfold mx; split <;> omega]
  decide +kernel

/-! Division, rounded down. -/
def floorS (a b : Int) : Int := if Int.tmod a b < 0 then wrap64 (wrap64 (Int.tdiv a b) - 1) else wrap64 (Int.tdiv a b)
theorem floor_is {a b : Int} (hb : b ≠ 0) : score_floor.f a b = some (floorS a b) := by
  unfold score_floor.f floorS
  rw [if_neg hb]
  split <;> rfl
theorem floorS_nonneg {a b : Int} (ha : 0 ≤ a) (ha1 : a ≤ 4611686018427387904) (hb : 0 < b) : floorS a b = a / b := by
  unfold floorS
  have h1 := Int.emod_nonneg a (show b ≠ 0 by omega)
  have h2 : 0 ≤ a / b := Int.ediv_nonneg ha (by omega)
  have h3 : a / b ≤ a := Int.ediv_le_self _ ha
  rw [Int.tmod_eq_emod_of_nonneg ha, if_neg (by omega), Int.tdiv_eq_ediv_of_nonneg ha, w64_id (by omega) (by omega)]

/-! Predictions. -/
/-- How many elements there are that fit, and the sum of their values. -/
def accS (p : S70 → Bool) : List S70 → Int → Int → Int × Int
  | [], n, s => (n, s)
  | x :: l, n, s => if p x = true then accS p l (wrap64 (n + 1)) (wrap64 (s + x.f1)) else accS p l n s
def fitS (strict : Bool) (arm cls : Int) (x : S70) : Bool := decide (x.f0.f4 = arm) && (!strict || classS x.f3 == cls)
def predS (s : List S70) (i : Nat) (cls arm cap : Int) : Int :=
  if (accS (fitS true arm cls) (s.take i) 0 0).1 > 0 then floorS (accS (fitS true arm cls) (s.take i) 0 0).2 (accS (fitS true arm cls) (s.take i) 0 0).1
  else if (accS (fitS false arm cls) (s.take i) 0 0).1 > 0 then floorS (accS (fitS false arm cls) (s.take i) 0 0).2 (accS (fitS false arm cls) (s.take i) 0 0).1
  else floorS cap 2
def predictS (s : List S70) (i arm cap : Int) : Int := if 0 ≤ i ∧ i < s.length then predS s i.toNat (classS (rd_T70 s i).f3) arm cap else 0
theorem rd_T {xs : List S70} {i : Nat} (h : i < xs.length) : rd_T70 xs (i : Int) = xs[i] := by
  unfold rd_T70
  simp [h]
theorem pred_l1 {s : List S70} {i arm cap cls j : Int} {strict b0 b1 : Bool} {pre : List S70} {R : Int} (hm : pre.length ≤ 4611686018427387904)
    (hl : ∀ n sum : Int, (n, sum) = accS (fitS strict arm cls) pre 0 0 → n > 0 → R = floorS sum n)
    (hn : ¬ (accS (fitS strict arm cls) pre 0 0).1 > 0 → Ev (fun k => score_Predict.l0 k s i arm cap cls (wrap64 (j + 1)) b0 b1) R) :
    ∀ m t : Nat, pre.length - t = m → t ≤ pre.length → ∀ n sum : Int, accS (fitS strict arm cls) (pre.drop t) n sum = accS (fitS strict arm cls) pre 0 0 →
    Ev (fun k => score_Predict.l1 k s i arm cap cls strict n sum j pre (pre.length : Int) (t : Int) b0 b1) R := by
  intro m
  induction m with
  | zero =>
    intro t hmt ht n sum he
    rw [List.drop_of_length_le (by omega)] at he
    simp only [accS] at he
    refine Ev.step (fun k => by simp only [score_Predict.l1]; rfl) ?_
    refine Ev.neg (by omega) (Ev.both (fun h => ?_) (fun h => hn (by rw [← he]; exact h)))
    rw [floor_is (by omega), hl n sum he h]
    exact Ev.now _
  | succ m ih =>
    intro t hmt ht n sum he
    have hlt : t < pre.length := by omega
    have hw : wrap64 ((t : Int) + 1) = ((t + 1 : Nat) : Int) := by rw [w64_id (by omega) (by omega)]; omega
    have rt := rd_T hlt
    rw [List.drop_eq_getElem_cons hlt] at he
    generalize pre[t] = x at rt he
    have j4 : ∀ b, b = fitS strict arm cls x → ∀ z0 z1 z2 z3 z4 z5 z7 z8 z9, Ev (fun k => score_Predict.j4 k s i arm cap cls strict n sum j pre (pre.length : Int) (t : Int) b b0 b1 z0 z1 z2 z3 z4 z5 x.f1 z7 z8 z9) R := by
      intro b hb z0 z1 z2 z3 z4 z5 z7 z8 z9
      subst hb
      refine Ev.step (fun k => by simp only [score_Predict.j4]; rfl) ?_
      simp only [accS] at he
      rw [hw]
      by_cases c : fitS strict arm cls x = true
      · rw [if_pos c] at he
        exact Ev.pos c (ih (t + 1) (by omega) (by omega) _ _ he)
      · rw [if_neg c] at he
        exact Ev.neg c (ih (t + 1) (by omega) (by omega) _ _ he)
    refine Ev.step (fun k => by simp only [score_Predict.l1]; rfl) ?_
    rw [rt]
    refine Ev.pos (by omega) (Ev.pos (by omega) (Ev.pos (by omega) (Ev.both (fun ha => Ev.both (fun hs => ?_) (fun hs => ?_)) (fun ha => ?_))))
    · exact Ev.bind (Class_is _) (j4 _ (by unfold fitS; rw [decide_eq_true ha, hs]; rfl) _ _ _ _ _ _ _ _ _)
    · exact j4 _ (by unfold fitS; rw [decide_eq_true ha, Bool.eq_false_iff.mpr hs]; rfl) _ _ _ _ _ _ _ _ _
    · exact j4 _ (by unfold fitS; rw [decide_eq_false ha]; rfl) _ _ _ _ _ _ _ _ _
theorem pred_j2 {s : List S70} {arm cap cls j : Int} {strict b0 b1 : Bool} {i : Nat} {R : Int} (hm : s.length ≤ 4611686018427387904) (hi : i ≤ s.length)
    (hl : (accS (fitS strict arm cls) (s.take i) 0 0).1 > 0 → R = floorS (accS (fitS strict arm cls) (s.take i) 0 0).2 (accS (fitS strict arm cls) (s.take i) 0 0).1)
    (hn : ¬ (accS (fitS strict arm cls) (s.take i) 0 0).1 > 0 → Ev (fun k => score_Predict.l0 k s (i : Int) arm cap cls (wrap64 (j + 1)) b0 b1) R) :
    Ev (fun k => score_Predict.j2 k s (i : Int) arm cap cls strict j b0 b1) R := by
  refine Ev.step (fun k => by simp only [score_Predict.j2]; rfl) ?_
  refine Ev.pos (by omega) (Ev.pos (by omega) (Ev.bind (Ev.now _) ?_))
  rw [Int.toNat_natCast]
  exact pred_l1 (by rw [List.length_take]; omega) (fun n sum he h => by rw [← he] at hl; exact hl h) hn _ 0 rfl (by omega) 0 0 (by simp)
theorem Predict_is (s : List S70) (i arm cap : Int) (hm : s.length ≤ 4611686018427387904) : Ev (fun k => score_Predict.f k s i arm cap) (predictS s i arm cap) := by
  unfold score_Predict.f predictS
  have stop : ∀ b, b = true → Ev (fun k => score_Predict.j0 k s i arm cap b) 0 := fun b hb => by
    subst hb
    exact Ev.step (f := fun _ => some 0) (fun k => by simp only [score_Predict.j0]; rw [if_pos trivial]) (Ev.now _)
  by_cases h : 0 ≤ i ∧ i < s.length
  · rw [if_pos h]
    obtain ⟨h0, h1⟩ := h
    obtain ⟨i, rfl⟩ := Int.eq_ofNat_of_zero_le h0
    rw [Int.toNat_natCast]
    have w1 : wrap64 (0 + 1) = 1 := w64_id (by decide) (by decide)
    have w2 : wrap64 (1 + 1) = 2 := w64_id (by decide) (by decide)
    refine Ev.neg (by omega) ?_
    rw [decide_eq_false (by omega)]
    refine Ev.step (fun k => by simp only [score_Predict.j0]; rfl) ?_
    refine Ev.neg (by decide) (Ev.pos (by omega) (Ev.pos (by omega) (Ev.bind (Class_is _) ?_)))
    refine Ev.step (fun k => by simp only [score_Predict.l0]; rfl) ?_
    refine Ev.pos (by decide) (Ev.pos (by decide) (pred_j2 hm (by omega) (fun h => ?_) (fun h => ?_)))
    · unfold predS; rw [if_pos h]
    · rw [w1]
      refine Ev.step (fun k => by simp only [score_Predict.l0]; rfl) ?_
      refine Ev.pos (by decide) (Ev.neg (by decide) (Ev.pos (by decide) (pred_j2 hm (by omega) (fun h2 => ?_) (fun h2 => ?_))))
      · unfold predS; rw [if_neg h, if_pos h2]
      · rw [w2]
        refine Ev.step (fun k => by simp only [score_Predict.l0]; rfl) ?_
        refine Ev.neg (by decide) ?_
        rw [floor_is (by decide)]
        unfold predS
        rw [if_neg h, if_neg h2]
        exact Ev.now _
  · rw [if_neg h]
    refine Ev.both (fun _ => stop _ rfl) (fun h2 => stop _ (decide_eq_true (by omega)))

/-! The score of a sample. -/
/-- Num, Unit, Range; whether there is a score. -/
def numS (arm y p1 p2 c t : Int) : Int := if arm = 1 then wrap64 (wrap64 (wrap64 (c * t) * wrap64 (p2 - p1)) - wrap64 (wrap64 (wrap64 (c + t) * t) * wrap64 (y - p1))) else wrap64 (wrap64 (wrap64 (c * t) * wrap64 (p2 - p1)) + wrap64 (wrap64 (wrap64 (c + t) * c) * wrap64 (y - p2)))
def okS (s : List S70) (i c t cap : Int) : Bool :=
  decide (0 ≤ i ∧ i < s.length ∧ 1 ≤ c ∧ c ≤ 10000 ∧ 1 ≤ t ∧ t ≤ 10000 ∧ 1 ≤ cap ∧ cap ≤ 1048576) && ((s.take (i.toNat + 1)).all fun x => decide (0 ≤ x.f1 ∧ x.f1 ≤ cap)) && decide ((rd_T70 s i).f0.f4 = 1 ∨ (rd_T70 s i).f0.f4 = 2)
def ofS (s : List S70) (i c t cap : Int) (adj : Bool) : Int × Int × Int × Bool :=
  if okS s i c t cap = true then
    (numS (rd_T70 s i).f0.f4 (rd_T70 s i).f1 (if adj = true then predictS s i 1 cap else 0) (if adj = true then predictS s i 2 cap else 0) c t, c * t * cap, cap * (2 * (c * t) + (c + t) * (mx c t)), true)
  else (0, 0, 0, false)
theorem mx_in {c t : Int} (h0 : 1 ≤ c) (h1 : c ≤ 10000) (h2 : 1 ≤ t) (h3 : t ≤ 10000) : 1 ≤ mx c t ∧ mx c t ≤ 10000 := by unfold mx; split <;> omega
/-- How great the parts are. -/
theorem parts_in {c t cap : Int} (h0 : 1 ≤ c) (h1 : c ≤ 10000) (h2 : 1 ≤ t) (h3 : t ≤ 10000) (h4 : 1 ≤ cap) (h5 : cap ≤ 1048576) :
    1 ≤ c * t ∧ c * t ≤ 100000000 ∧ 2 ≤ (c + t) * mx c t ∧ (c + t) * mx c t ≤ 200000000 ∧ 1 ≤ c * t * cap ∧ c * t * cap ≤ 104857600000000 ∧ 4 ≤ cap * (2 * (c * t) + (c + t) * mx c t) ∧ cap * (2 * (c * t) + (c + t) * mx c t) ≤ 419430400000000 := by
  have m := mx_in h0 h1 h2 h3
  have p := mul_le (x := c) (y := t) (a := 10000) (b := 10000) (by omega) (by omega) h1 h3
  have p1 : 1 * 1 ≤ c * t := Int.mul_le_mul h0 h2 (by omega) (by omega)
  have q := mul_le (x := c + t) (y := mx c t) (a := 20000) (b := 10000) (by omega) (by omega) (by omega) m.2
  have q1 : 2 * 1 ≤ (c + t) * mx c t := Int.mul_le_mul (by omega) m.1 (by omega) (by omega)
  generalize (c + t) * mx c t = z at *
  generalize c * t = w at *
  have r := mul_le (x := w) (y := cap) (a := 100000000) (b := 1048576) (by omega) (by omega) (by omega) h5
  have r1 : 1 * 1 ≤ w * cap := Int.mul_le_mul p1 h4 (by omega) (by omega)
  have u := mul_le (x := cap) (y := 2 * w + z) (a := 1048576) (b := 400000000) (by omega) (by omega) h5 (by omega)
  have u1 : 1 * 4 ≤ cap * (2 * w + z) := Int.mul_le_mul h4 (by omega) (by omega) (by omega)
  refine ⟨by omega, by omega, by omega, by omega, by omega, by omega, by omega, by omega⟩
theorem all_from {s : List S70} {cap : Int} {t : Nat} (h : t < s.length) : ((s.drop t).all fun x => decide (0 ≤ x.f1 ∧ x.f1 ≤ cap)) = (decide (0 ≤ s[t].f1 ∧ s[t].f1 ≤ cap) && ((s.drop (t + 1)).all fun x => decide (0 ≤ x.f1 ∧ x.f1 ≤ cap))) := by
  rw [List.drop_eq_getElem_cons h]; rfl
theorem of_j2 {s : List S70} {i : Nat} {c t cap p1 p2 : Int} (hi : i < s.length) (h0 : 1 ≤ c) (h1 : c ≤ 10000) (h2 : 1 ≤ t) (h3 : t ≤ 10000) (h4 : 1 ≤ cap) (h5 : cap ≤ 1048576) :
    Ev (fun k => score_Of.j2 k s (i : Int) cap p1 p2 c t) (if (rd_T70 s i).f0.f4 = 1 ∨ (rd_T70 s i).f0.f4 = 2 then (numS (rd_T70 s i).f0.f4 (rd_T70 s i).f1 p1 p2 c t, c * t * cap, cap * (2 * (c * t) + (c + t) * (mx c t)), true) else (0, 0, 0, false)) := by
  obtain ⟨b1, b2, b3, b4, b5, b6, b7, b8⟩ := parts_in h0 h1 h2 h3 h4 h5
  have m := mx_in h0 h1 h2 h3
  have e1 : wrap64 (c * t) = c * t := w64_id (by omega) (by omega)
  have e2 : wrap64 (c + t) = c + t := w64_id (by omega) (by omega)
  have e3 : wrap64 (c * t * cap) = c * t * cap := w64_id (by omega) (by omega)
  have e4 : wrap64 (2 * (c * t)) = 2 * (c * t) := w64_id (by omega) (by omega)
  have e5 : wrap64 ((c + t) * mx c t) = (c + t) * mx c t := w64_id (by omega) (by omega)
  have e6 : wrap64 (2 * (c * t) + (c + t) * mx c t) = 2 * (c * t) + (c + t) * mx c t := w64_id (by omega) (by omega)
  have e7 : wrap64 (cap * (2 * (c * t) + (c + t) * mx c t)) = cap * (2 * (c * t) + (c + t) * mx c t) := w64_id (by omega) (by omega)
  refine Ev.step (fun k => by simp only [score_Of.j2, score_weights_product.f, score_weights_sum.f, Option.bind_some]; rfl) ?_
  rw [e1, e2, e3, e4, e5, e6, e7]
  refine Ev.pos (by omega) (Ev.pos (by omega) ?_)
  refine Ev.step (fun k => by simp only [score_Of.j3, score_weights_sum.f, Option.bind_some]; rfl) ?_
  refine Ev.pos (by omega) (Ev.pos (by omega) (Ev.both (fun ha => ?_) (fun ha => Ev.both (fun hb => ?_) (fun hb => ?_))))
  · rw [if_pos (.inl ha)]; unfold numS; rw [if_pos ha, e1, e2]; exact Ev.now _
  · rw [if_pos (.inr hb)]; unfold numS; rw [if_neg ha, e1, e2]; exact Ev.now _
  · rw [if_neg (by omega)]; exact Ev.now _
theorem of_l0 {s : List S70} {i : Nat} {c t cap : Int} {adj : Bool} (hm : s.length ≤ 4611686018427387904) (hi : i < s.length) (h0 : 1 ≤ c) (h1 : c ≤ 10000) (h2 : 1 ≤ t) (h3 : t ≤ 10000) (h4 : 1 ≤ cap) (h5 : cap ≤ 1048576) :
    ∀ m j : Nat, i + 1 - j = m → j ≤ i + 1 → Ev (fun k => score_Of.l0 k s (i : Int) cap adj (s.take (i + 1)) ((s.take (i + 1)).length : Int) (j : Int) c t)
      (if ((s.take (i + 1)).drop j).all (fun x => decide (0 ≤ x.f1 ∧ x.f1 ≤ cap)) = true ∧ ((rd_T70 s i).f0.f4 = 1 ∨ (rd_T70 s i).f0.f4 = 2) then
        (numS (rd_T70 s i).f0.f4 (rd_T70 s i).f1 (if adj = true then predictS s i 1 cap else 0) (if adj = true then predictS s i 2 cap else 0) c t, c * t * cap, cap * (2 * (c * t) + (c + t) * (mx c t)), true) else (0, 0, 0, false)) := by
  intro m
  have hlen : (s.take (i + 1)).length = i + 1 := by rw [List.length_take]; omega
  induction m with
  | zero =>
    intro j hmt hj
    rw [List.drop_of_length_le (by omega)]
    refine Ev.step (fun k => by simp only [score_Of.l0]; rfl) ?_
    refine Ev.neg (by omega) ?_
    have fin : ∀ p1 p2 : Int, Ev (fun k => score_Of.j2 k s (i : Int) cap p1 p2 c t) (if ([] : List S70).all (fun x => decide (0 ≤ x.f1 ∧ x.f1 ≤ cap)) = true ∧ ((rd_T70 s i).f0.f4 = 1 ∨ (rd_T70 s i).f0.f4 = 2) then (numS (rd_T70 s i).f0.f4 (rd_T70 s i).f1 p1 p2 c t, c * t * cap, cap * (2 * (c * t) + (c + t) * (mx c t)), true) else (0, 0, 0, false)) := fun p1 p2 => by
      have := of_j2 (s := s) (i := i) (p1 := p1) (p2 := p2) hi h0 h1 h2 h3 h4 h5
      simpa using this
    by_cases ha : adj = true
    · rw [if_pos ha, if_pos ha]
      exact Ev.pos ha (Ev.bind (Predict_is _ _ _ _ hm) (Ev.bind (Predict_is _ _ _ _ hm) (fin _ _)))
    · rw [if_neg ha, if_neg ha]
      exact Ev.neg ha (fin _ _)
  | succ m ih =>
    intro j hmt hj
    have hlt : j < (s.take (i + 1)).length := by omega
    have hw : wrap64 ((j : Int) + 1) = ((j + 1 : Nat) : Int) := by rw [w64_id (by omega) (by omega)]; omega
    have rt := rd_T hlt
    have next := ih (j + 1) (by omega) (by omega)
    rw [all_from hlt]
    generalize (s.take (i + 1))[j] = x at rt
    refine Ev.step (fun k => by simp only [score_Of.l0]; rfl) ?_
    rw [rt, hw]
    refine Ev.pos (by omega) (Ev.pos (by omega) (Ev.pos (by omega) (Ev.both (fun ha => ?_) (fun ha => Ev.both (fun hb => ?_) (fun hb => ?_)))))
    · rw [decide_eq_false (by omega)]; simp only [Bool.false_and, Bool.false_eq_true, false_and, if_false]; exact Ev.now _
    · rw [decide_eq_false (by omega)]; simp only [Bool.false_and, Bool.false_eq_true, false_and, if_false]; exact Ev.now _
    · rw [decide_eq_true (by omega)]; simp only [Bool.true_and]; exact next
theorem Of_is (s : List S70) (i v c t cap : Int) (adj : Bool) (hm : s.length ≤ 4611686018427387904) : Ev (fun k => score_Of.f k s i v c t cap adj) (ofS s i c t cap adj) := by
  unfold score_Of.f ofS
  have stop : ∀ b, b = true → Ev (fun k => score_Of.j0 k s i cap adj b c t) (0, 0, 0, false) := fun b hb => by
    subst hb
    exact Ev.step (f := fun _ => some (0, 0, 0, false)) (fun k => by simp only [score_Of.j0]; rw [if_pos trivial]) (Ev.now _)
  by_cases h : 0 ≤ i ∧ i < s.length ∧ 1 ≤ c ∧ c ≤ 10000 ∧ 1 ≤ t ∧ t ≤ 10000 ∧ 1 ≤ cap ∧ cap ≤ 1048576
  · have hv : score_weights_valid.f c t = some true := by
      unfold score_weights_valid.f
      rw [if_pos (by omega), if_pos (by omega), if_pos (by omega), decide_eq_true (by omega)]
    refine Ev.neg (by omega) (Ev.neg (by omega) ?_)
    rw [hv]
    refine Ev.bind (Ev.now _) (Ev.pos rfl (Ev.neg (by omega) ?_))
    rw [decide_eq_false (by omega)]
    obtain ⟨i0, i1, h0, h1, h2, h3, h4, h5⟩ := h
    obtain ⟨i, rfl⟩ := Int.eq_ofNat_of_zero_le i0
    have hw : wrap64 ((i : Int) + 1) = ((i + 1 : Nat) : Int) := by rw [w64_id (by omega) (by omega)]; omega
    refine Ev.step (fun k => by simp only [score_Of.j0]; rfl) ?_
    rw [hw, Int.toNat_natCast]
    refine Ev.neg (by decide) (Ev.pos (by omega) (Ev.pos (by omega) (Ev.bind (Ev.now _) ?_)))
    have := of_l0 (s := s) (i := i) (adj := adj) hm (by omega) h0 h1 h2 h3 h4 h5 (i + 1) 0 rfl (by omega)
    rw [List.drop_zero] at this
    unfold okS
    rw [decide_eq_true (by omega : 0 ≤ (i : Int) ∧ (i : Int) < s.length ∧ 1 ≤ c ∧ c ≤ 10000 ∧ 1 ≤ t ∧ t ≤ 10000 ∧ 1 ≤ cap ∧ cap ≤ 1048576), Int.toNat_natCast]
    simp only [Bool.true_and, Bool.and_eq_true, decide_eq_true_eq]
    exact this
  · have hk : okS s i c t cap = false := by
      unfold okS
      rw [decide_eq_false h]; rfl
    rw [hk, if_neg (by decide)]
    refine Ev.both (fun _ => stop _ rfl) (fun g1 => Ev.both (fun _ => stop _ rfl) (fun g2 => ?_))
    by_cases g : 1 ≤ c ∧ c ≤ 10000 ∧ 1 ≤ t ∧ t ≤ 10000
    · have hv : score_weights_valid.f c t = some true := by
        unfold score_weights_valid.f
        rw [if_pos (by omega), if_pos (by omega), if_pos (by omega), decide_eq_true (by omega)]
      rw [hv]
      exact Ev.bind (Ev.now _) (Ev.pos rfl (Ev.both (fun _ => stop _ rfl) (fun g3 => stop _ (decide_eq_true (by omega)))))
    · have hv : score_weights_valid.f c t = some false := by
        unfold score_weights_valid.f
        by_cases g3 : c ≥ 1
        · rw [if_pos g3]
          by_cases g4 : c ≤ 10000
          · rw [if_pos g4]
            by_cases g5 : t ≥ 1
            · rw [if_pos g5, decide_eq_false (by omega)]
            · rw [if_neg g5]
          · rw [if_neg g4]
        · rw [if_neg g3]
      rw [hv]
      exact Ev.bind (Ev.now _) (Ev.neg (by decide) (stop _ rfl))

theorem acc_in {p : S70 → Bool} {cap : Int} (h4 : 1 ≤ cap) (h5 : cap ≤ 1048576) : ∀ (l : List S70) (n s : Int), (∀ x ∈ l, 0 ≤ x.f1 ∧ x.f1 ≤ cap) → 0 ≤ n → 0 ≤ s → s ≤ n * cap → n + l.length ≤ 1000000 →
    0 ≤ (accS p l n s).1 ∧ (accS p l n s).1 ≤ n + l.length ∧ 0 ≤ (accS p l n s).2 ∧ (accS p l n s).2 ≤ (accS p l n s).1 * cap
  | [], n, s, _, hn, h0, hs, _ => by
    simp only [accS, List.length_nil]
    exact ⟨hn, by omega, h0, hs⟩
  | x :: l, n, s, hx, hn, h0, hs, hl => by
    have hx0 := hx x (List.mem_cons_self ..)
    have hx' : ∀ y ∈ l, 0 ≤ y.f1 ∧ y.f1 ≤ cap := fun y hy => hx y (List.mem_cons_of_mem _ hy)
    simp only [accS, List.length_cons] at hl ⊢
    have hb := (mul_le (x := n) (y := cap) (a := 1000000) (b := 1048576) hn (by omega) (by omega) h5).2
    by_cases c : p x = true
    · rw [if_pos c]
      have e : (n + 1) * cap = n * cap + cap := by rw [Int.add_mul, Int.one_mul]
      have w1 : wrap64 (n + 1) = n + 1 := w64_id (by omega) (by omega)
      have w2 : wrap64 (s + x.f1) = s + x.f1 := w64_id (by omega) (by omega)
      rw [w1, w2]
      have := acc_in (p := p) h4 h5 l (n + 1) (s + x.f1) hx' (by omega) (by omega) (by omega) (by omega)
      exact ⟨this.1, by omega, this.2.2⟩
    · rw [if_neg c]
      have := acc_in (p := p) h4 h5 l n s hx' hn h0 hs (by omega)
      exact ⟨this.1, by omega, this.2.2⟩
theorem floor_in {n s cap : Int} (hn : 0 < n) (hn1 : n ≤ 1000000) (h0 : 0 ≤ s) (hs : s ≤ n * cap) (h4 : 1 ≤ cap) (h5 : cap ≤ 1048576) : 0 ≤ floorS s n ∧ floorS s n ≤ cap := by
  have hb := (mul_le (x := n) (y := cap) (a := 1000000) (b := 1048576) (by omega) (by omega) hn1 h5).2
  rw [floorS_nonneg h0 (by omega) hn]
  refine ⟨Int.ediv_nonneg h0 (by omega), ?_⟩
  apply Int.ediv_le_of_le_mul hn
  rw [Int.mul_comm]; exact hs
theorem predict_in {s : List S70} {i : Nat} {cap : Int} (h4 : 1 ≤ cap) (h5 : cap ≤ 1048576) (hi : i ≤ 1000000) (hx : ∀ x ∈ s.take i, 0 ≤ x.f1 ∧ x.f1 ≤ cap) (arm : Int) : 0 ≤ predictS s i arm cap ∧ predictS s i arm cap ≤ cap := by
  unfold predictS
  by_cases h : 0 ≤ (i : Int) ∧ (i : Int) < s.length
  · rw [if_pos h, Int.toNat_natCast]
    have hl : (s.take i).length ≤ 1000000 := by rw [List.length_take]; omega
    unfold predS
    generalize classS (rd_T70 s i).f3 = cls
    have a1 := acc_in (p := fitS true arm cls) h4 h5 (s.take i) 0 0 hx (by decide) (by decide) (by simp) (by omega)
    have a2 := acc_in (p := fitS false arm cls) h4 h5 (s.take i) 0 0 hx (by decide) (by decide) (by simp) (by omega)
    by_cases c1 : (accS (fitS true arm cls) (s.take i) 0 0).1 > 0
    · rw [if_pos c1]; exact floor_in c1 (by omega) a1.2.2.1 a1.2.2.2 h4 h5
    · rw [if_neg c1]
      by_cases c2 : (accS (fitS false arm cls) (s.take i) 0 0).1 > 0
      · rw [if_pos c2]; exact floor_in c2 (by omega) a2.2.2.1 a2.2.2.2 h4 h5
      · rw [if_neg c2, floorS_nonneg (by omega) (by omega) (by decide)]; omega
  · rw [if_neg h]; omega
/-- A product with a difference of two numbers between 0 and the cap. -/
theorem mul_diff {a x y cap : Int} (ha : 0 ≤ a) (hx0 : 0 ≤ x) (hx : x ≤ cap) (hy0 : 0 ≤ y) (hy : y ≤ cap) : -(a * cap) ≤ a * (x - y) ∧ a * (x - y) ≤ a * cap := by
  have h1 : a * (x - y) ≤ a * cap := Int.mul_le_mul_of_nonneg_left (by omega) ha
  have h2 : a * (-cap) ≤ a * (x - y) := Int.mul_le_mul_of_nonneg_left (by omega) ha
  rw [Int.mul_neg] at h2
  exact ⟨h2, h1⟩
/-- The number of a score, without wraps, and how great it is. -/
theorem num_plain {arm y p1 p2 c t cap : Int} (h0 : 1 ≤ c) (h1 : c ≤ 10000) (h2 : 1 ≤ t) (h3 : t ≤ 10000) (h4 : 1 ≤ cap) (h5 : cap ≤ 1048576)
    (y0 : 0 ≤ y) (y1 : y ≤ cap) (a0 : 0 ≤ p1) (a1 : p1 ≤ cap) (b0 : 0 ≤ p2) (b1 : p2 ≤ cap) :
    numS arm y p1 p2 c t = (if arm = 1 then c * t * (p2 - p1) - (c + t) * t * (y - p1) else c * t * (p2 - p1) + (c + t) * c * (y - p2)) ∧
    c * t * cap - cap * (2 * (c * t) + (c + t) * mx c t) ≤ numS arm y p1 p2 c t ∧ numS arm y p1 p2 c t ≤ cap * (2 * (c * t) + (c + t) * mx c t) - c * t * cap := by
  have mc : c ≤ mx c t ∧ t ≤ mx c t ∧ mx c t ≤ 10000 := by unfold mx; split <;> omega
  have p := mul_le (x := c) (y := t) (a := 10000) (b := 10000) (by omega) (by omega) h1 h3
  have s1 : (c + t) * t ≤ (c + t) * mx c t := Int.mul_le_mul_of_nonneg_left mc.2.1 (by omega)
  have s2 : (c + t) * c ≤ (c + t) * mx c t := Int.mul_le_mul_of_nonneg_left mc.1 (by omega)
  have s3 : 0 ≤ (c + t) * t := Int.mul_nonneg (by omega) (by omega)
  have s4 : 0 ≤ (c + t) * c := Int.mul_nonneg (by omega) (by omega)
  have s5 := (mul_le (x := c + t) (y := mx c t) (a := 20000) (b := 10000) (by omega) (by omega) (by omega) mc.2.2).2
  have e1 : wrap64 (c * t) = c * t := w64_id (by omega) (by omega)
  have e2 : wrap64 (c + t) = c + t := w64_id (by omega) (by omega)
  have e3 : wrap64 ((c + t) * t) = (c + t) * t := w64_id (by omega) (by omega)
  have e4 : wrap64 ((c + t) * c) = (c + t) * c := w64_id (by omega) (by omega)
  have d1 : wrap64 (p2 - p1) = p2 - p1 := w64_id (by omega) (by omega)
  have d2 : wrap64 (y - p1) = y - p1 := w64_id (by omega) (by omega)
  have d3 : wrap64 (y - p2) = y - p2 := w64_id (by omega) (by omega)
  have er : cap * (2 * (c * t) + (c + t) * mx c t) = 2 * (c * t * cap) + (c + t) * mx c t * cap := by
    rw [Int.mul_add, Int.mul_comm cap ((c + t) * mx c t), Int.mul_comm cap (2 * (c * t)), Int.mul_assoc 2]
  unfold numS
  rw [e1, e2, e3, e4, d1, d2, d3, er]
  have q1 := mul_diff (a := c * t) p.1 b0 b1 a0 a1
  have q2 := mul_diff (a := (c + t) * t) s3 y0 y1 a0 a1
  have q3 := mul_diff (a := (c + t) * c) s4 y0 y1 b0 b1
  have r2 : (c + t) * t * cap ≤ (c + t) * mx c t * cap := Int.mul_le_mul_of_nonneg_right s1 (by omega)
  have r3 : (c + t) * c * cap ≤ (c + t) * mx c t * cap := Int.mul_le_mul_of_nonneg_right s2 (by omega)
  have r1 := (mul_le (x := c * t) (y := cap) (a := 100000000) (b := 1048576) p.1 (by omega) (by omega) h5).2
  have r4 := (mul_le (x := (c + t) * mx c t) (y := cap) (a := 200000000) (b := 1048576) (by omega) (by omega) (by omega) h5).2
  generalize c * t * (p2 - p1) = u1 at *
  generalize (c + t) * t * (y - p1) = u2 at *
  generalize (c + t) * c * (y - p2) = u3 at *
  generalize c * t * cap = v1 at *
  generalize (c + t) * t * cap = v2 at *
  generalize (c + t) * c * cap = v3 at *
  generalize (c + t) * mx c t * cap = v4 at *
  have w1 : wrap64 u1 = u1 := w64_id (by omega) (by omega)
  have w2 : wrap64 u2 = u2 := w64_id (by omega) (by omega)
  have w3 : wrap64 u3 = u3 := w64_id (by omega) (by omega)
  rw [w1, w2, w3, w64_id (x := u1 - u2) (by omega) (by omega), w64_id (x := u1 + u3) (by omega) (by omega)]
  refine ⟨rfl, ?_, ?_⟩ <;> split <;> omega
theorem ok_iff {s : List S70} {i c t cap : Int} (h : okS s i c t cap = true) : (0 ≤ i ∧ i < s.length ∧ 1 ≤ c ∧ c ≤ 10000 ∧ 1 ≤ t ∧ t ≤ 10000 ∧ 1 ≤ cap ∧ cap ≤ 1048576) ∧ (∀ x ∈ s.take (i.toNat + 1), 0 ≤ x.f1 ∧ x.f1 ≤ cap) ∧ ((rd_T70 s i).f0.f4 = 1 ∨ (rd_T70 s i).f0.f4 = 2) := by
  unfold okS at h
  simp only [Bool.and_eq_true, decide_eq_true_eq, List.all_eq_true] at h
  exact ⟨h.1.1, h.1.2, h.2⟩
theorem take_sub {s : List S70} {i : Nat} {P : S70 → Prop} (h : ∀ x ∈ s.take (i + 1), P x) : ∀ x ∈ s.take i, P x := fun x hx => h x (List.take_subset_take_left s (Nat.le_succ i) hx)
/-- What there is to tell of a score that there is: with p1, p2 the predictions, or 0. -/
theorem of_good {s : List S70} {i c t cap : Int} {adj : Bool} (hl : s.length ≤ 1000000) (h : okS s i c t cap = true) : ∃ p1 p2, 0 ≤ p1 ∧ p1 ≤ cap ∧ 0 ≤ p2 ∧ p2 ≤ cap ∧ p1 = (if adj = true then predictS s i 1 cap else 0) ∧ p2 = (if adj = true then predictS s i 2 cap else 0) ∧
    ofS s i c t cap adj = (if (rd_T70 s i).f0.f4 = 1 then c * t * (p2 - p1) - (c + t) * t * ((rd_T70 s i).f1 - p1) else c * t * (p2 - p1) + (c + t) * c * ((rd_T70 s i).f1 - p2), c * t * cap, cap * (2 * (c * t) + (c + t) * (mx c t)), true) ∧
    1 ≤ (ofS s i c t cap adj).2.1 ∧ (ofS s i c t cap adj).2.1 ≤ (ofS s i c t cap adj).2.2.1 ∧ (ofS s i c t cap adj).2.2.1 ≤ 562949953421312 ∧ (ofS s i c t cap adj).2.1 - (ofS s i c t cap adj).2.2.1 ≤ (ofS s i c t cap adj).1 ∧ (ofS s i c t cap adj).1 ≤ (ofS s i c t cap adj).2.2.1 - (ofS s i c t cap adj).2.1 := by
  obtain ⟨⟨i0, i1, h0, h1, h2, h3, h4, h5⟩, hx, ha⟩ := ok_iff h
  obtain ⟨j, rfl⟩ := Int.eq_ofNat_of_zero_le i0
  rw [Int.toNat_natCast] at hx
  have hj : j < s.length := by omega
  have pr := fun arm => predict_in (s := s) (i := j) h4 h5 (by omega) (take_sub hx) arm
  have hp : ∀ arm, 0 ≤ (if adj = true then predictS s (j : Int) arm cap else 0) ∧ (if adj = true then predictS s (j : Int) arm cap else 0) ≤ cap := fun arm => by
    have := pr arm
    split <;> omega
  have hv : 0 ≤ (rd_T70 s j).f1 ∧ (rd_T70 s j).f1 ≤ cap := by
    rw [rd_T hj]
    refine hx _ ?_
    rw [List.mem_take_iff_getElem]
    exact ⟨j, by omega, rfl⟩
  have n := num_plain (arm := (rd_T70 s j).f0.f4) h0 h1 h2 h3 h4 h5 hv.1 hv.2 (hp 1).1 (hp 1).2 (hp 2).1 (hp 2).2
  have b := parts_in h0 h1 h2 h3 h4 h5
  refine ⟨_, _, (hp 1).1, (hp 1).2, (hp 2).1, (hp 2).2, rfl, rfl, ?_⟩
  have e : ofS s (j : Int) c t cap adj = (numS (rd_T70 s (j : Int)).f0.f4 (rd_T70 s (j : Int)).f1 (if adj = true then predictS s (j : Int) 1 cap else 0) (if adj = true then predictS s (j : Int) 2 cap else 0) c t, c * t * cap, cap * (2 * (c * t) + (c + t) * (mx c t)), true) := by
    unfold ofS; rw [if_pos h]
  rw [e]
  refine ⟨by rw [n.1], ?_, ?_, ?_, ?_, ?_⟩
  · simp only; omega
  · simp only
    have h1' := b.1
    have er : cap * (2 * (c * t) + (c + t) * mx c t) = 2 * (c * t * cap) + (c + t) * mx c t * cap := by
      rw [Int.mul_add, Int.mul_comm cap ((c + t) * mx c t), Int.mul_comm cap (2 * (c * t)), Int.mul_assoc 2]
    have : 0 ≤ (c + t) * mx c t * cap := Int.mul_nonneg (by omega) (by omega)
    omega
  · simp only; omega
  · exact n.2.1
  · exact n.2.2

theorem valid_true {n u r : Int} (h1 : 1 ≤ u) (h2 : u ≤ r) (h3 : r ≤ 562949953421312) (h4 : u - r ≤ n) (h5 : n ≤ r - u) : score_Valid.f n u r = some true := by
  unfold score_Valid.f
  rw [if_pos h1, if_pos h2, if_pos h3, w64_id (x := u - r) (by omega) (by omega), w64_id (x := r - u) (by omega) (by omega), if_pos h4, decide_eq_true h5]
theorem of_valid {s : List S70} {i c t cap : Int} {adj : Bool} (hl : s.length ≤ 1000000) (h : okS s i c t cap = true) : score_Valid.f (ofS s i c t cap adj).1 (ofS s i c t cap adj).2.1 (ofS s i c t cap adj).2.2.1 = some true := by
  obtain ⟨p1, p2, _, _, _, _, _, _, _, h1, h2, h3, h4, h5⟩ := of_good (adj := adj) hl h
  exact valid_true h1 h2 h3 h4 h5
theorem of_flag {s : List S70} {i c t cap : Int} {adj : Bool} : (ofS s i c t cap adj).2.2.2 = okS s i c t cap := by
  unfold ofS
  by_cases h : okS s i c t cap = true
  · rw [if_pos h, h]
  · rw [if_neg h, Bool.eq_false_iff.mpr h]

theorem rd_W {xs : List S65} {i : Nat} (h : i < xs.length) : rd_T65 xs (i : Int) = xs[i] := by
  unfold rd_T65
  simp [h]
theorem rd_Sc {xs : List S50} {i : Nat} (h : i < xs.length) : rd_T50 xs (i : Int) = xs[i] := by
  unfold rd_T50
  simp [h]
/-- The score of sample i, if there is one. -/
def oneS (s : List S70) (w : List S65) (cap : Int) (adj : Bool) (i : Int) (v : Int) : Option S50 :=
  match w.find? (fun y => y.f0 = v) with
  | none => none
  | some y => if (ofS s i y.f1 y.f2 cap adj).2.2.2 = true then some ⟨(ofS s i y.f1 y.f2 cap adj).1, (ofS s i y.f1 y.f2 cap adj).2.1, (ofS s i y.f1 y.f2 cap adj).2.2.1⟩ else none
/-- The scores of the samples from i on. -/
def allS (s : List S70) (w : List S65) (cap : Int) (adj : Bool) : Nat → List S70 → List S50
  | _, [] => []
  | i, x :: l => (oneS s w cap adj (i : Int) x.f0.f5).toList ++ allS s w cap adj (i + 1) l
theorem allS_length (s : List S70) (w : List S65) (cap : Int) (adj : Bool) : ∀ (l : List S70) (i : Nat), (allS s w cap adj i l).length ≤ l.length
  | [], _ => by simp [allS]
  | x :: l, i => by
    have := allS_length s w cap adj l (i + 1)
    simp only [allS, List.length_append, List.length_cons]
    have h2 : (oneS s w cap adj (i : Int) x.f0.f5).toList.length ≤ 1 := by cases oneS s w cap adj (i : Int) x.f0.f5 <;> simp
    omega
theorem all_l1 {s : List S70} {w : List S65} {cap : Int} {adj : Bool} {out : List S50} {i : Nat} {v : Int} {R : List S50} (hm : s.length ≤ 4611686018427387904) (hw : w.length ≤ 4611686018427387904) (ho : out.length < 5864062014805)
    (h : Ev (fun k => score_All.l0 k s w cap adj (out ++ (oneS s w cap adj (i : Int) v).toList) s (s.length : Int) (wrap64 ((i : Int) + 1))) R) :
    ∀ m j : Nat, w.length - j = m → j ≤ w.length → (w.drop j).find? (fun y => y.f0 = v) = w.find? (fun y => y.f0 = v) → ∀ z0 z1 z2 z3 z4 z6 z7 z8 z9,
    Ev (fun k => score_All.l1 k s w cap adj out (i : Int) s (s.length : Int) (i : Int) w (w.length : Int) (j : Int) z0 z1 z2 z3 z4 v z6 z7 z8 z9) R := by
  intro m
  induction m with
  | zero =>
    intro j hmt hj hf z0 z1 z2 z3 z4 z6 z7 z8 z9
    rw [List.drop_of_length_le (by omega)] at hf
    refine Ev.step (fun k => by simp only [score_All.l1]; rfl) ?_
    have e : oneS s w cap adj (i : Int) v = none := by unfold oneS; rw [← hf]; rfl
    rw [e] at h
    simp only [Option.toList_none, List.append_nil] at h
    exact Ev.neg (by omega) h
  | succ m ih =>
    intro j hmt hj hf z0 z1 z2 z3 z4 z6 z7 z8 z9
    have hlt : j < w.length := by omega
    have hww : wrap64 ((j : Int) + 1) = ((j + 1 : Nat) : Int) := by rw [w64_id (by omega) (by omega)]; omega
    have rt := rd_W hlt
    rw [List.drop_eq_getElem_cons hlt, List.find?_cons] at hf
    generalize w[j] = y at rt hf
    refine Ev.step (fun k => by simp only [score_All.l1]; rfl) ?_
    rw [rt, hww]
    refine Ev.pos (by omega) (Ev.pos (by omega) (Ev.pos (by omega) (Ev.both (fun ha => ?_) (fun ha => ?_))))
    · rw [decide_eq_true ha] at hf
      refine Ev.bind (Of_is _ _ _ _ _ _ _ hm) ?_
      refine Ev.both (fun hk => ?_) (fun hk => ?_)
      · have e : oneS s w cap adj (i : Int) v = some ⟨(ofS s i y.f1 y.f2 cap adj).1, (ofS s i y.f1 y.f2 cap adj).2.1, (ofS s i y.f1 y.f2 cap adj).2.2.1⟩ := by
          unfold oneS; rw [← hf]; simp only; rw [if_pos hk]
        rw [e] at h
        exact Ev.pos ho h
      · have e : oneS s w cap adj (i : Int) v = none := by
          unfold oneS; rw [← hf]; simp only; rw [if_neg hk]
        rw [e] at h
        simp only [Option.toList_none, List.append_nil] at h
        exact h
    · rw [decide_eq_false ha] at hf
      exact ih (j + 1) (by omega) (by omega) hf _ _ _ _ _ _ _ _ _
theorem All_is (s : List S70) (w : List S65) (cap : Int) (adj : Bool) (hm : s.length ≤ 1000000000) (hw : w.length ≤ 4611686018427387904) : Ev (fun k => score_All.f k s w cap adj) (allS s w cap adj 0 s) := by
  unfold score_All.f
  have go : ∀ m i : Nat, s.length - i = m → i ≤ s.length → ∀ out : List S50, out.length ≤ i → Ev (fun k => score_All.l0 k s w cap adj out s (s.length : Int) (i : Int)) (out ++ allS s w cap adj i (s.drop i)) := by
    intro m
    induction m with
    | zero =>
      intro i hmt hi out ho
      rw [List.drop_of_length_le (by omega)]
      simp only [allS, List.append_nil]
      refine Ev.step (fun k => by simp only [score_All.l0]; rfl) ?_
      exact Ev.neg (by omega) (Ev.now _)
    | succ m ih =>
      intro i hmt hi out ho
      have hlt : i < s.length := by omega
      have hwi : wrap64 ((i : Int) + 1) = ((i + 1 : Nat) : Int) := by rw [w64_id (by omega) (by omega)]; omega
      have rt := rd_T hlt
      rw [List.drop_eq_getElem_cons hlt]
      generalize s[i] = x at rt
      simp only [allS]
      rw [← List.append_assoc]
      have h2 : (oneS s w cap adj (i : Int) x.f0.f5).toList.length ≤ 1 := by cases oneS s w cap adj (i : Int) x.f0.f5 <;> simp
      have next := ih (i + 1) (by omega) (by omega) (out ++ (oneS s w cap adj (i : Int) x.f0.f5).toList) (by rw [List.length_append]; omega)
      rw [← hwi] at next
      refine Ev.step (fun k => by simp only [score_All.l0]; rfl) ?_
      rw [rt]
      exact Ev.pos (by omega) (Ev.pos (by omega) (Ev.pos (by omega) (all_l1 (by omega) hw (by omega) next _ 0 rfl (by omega) rfl _ _ _ _ _ _ _ _ _)))
  have h := go s.length 0 (by omega) (by omega) [] (by simp)
  simpa using h

theorem at_take {s s' : List S70} {j : Nat} (h : s.take (j + 1) = s'.take (j + 1)) (hj : j < s.length) (hj' : j < s'.length) : s[j] = s'[j] := by
  have := congrArg (fun l => l[j]?) h
  simp only [List.getElem?_take] at this
  rw [if_pos (by omega), if_pos (by omega), List.getElem?_eq_getElem hj, List.getElem?_eq_getElem hj'] at this
  exact Option.some.inj this
theorem take_less {s s' : List S70} {j : Nat} (h : s.take (j + 1) = s'.take (j + 1)) : s.take j = s'.take j := by
  have := congrArg (List.take j) h
  rw [List.take_take, List.take_take, Nat.min_eq_left (by omega)] at this
  exact this
theorem predict_prefix {s s' : List S70} {j : Nat} (h : s.take j = s'.take j) (hj : j < s.length) (hj' : j < s'.length) (hx : (rd_T70 s j).f3 = (rd_T70 s' j).f3) (arm cap : Int) : predictS s j arm cap = predictS s' j arm cap := by
  unfold predictS
  rw [if_pos (by omega), if_pos (by omega), hx, Int.toNat_natCast]
  unfold predS
  rw [h]
theorem of_prefix {s s' : List S70} {j : Nat} (h : s.take (j + 1) = s'.take (j + 1)) (hj : j < s.length) (hj' : j < s'.length) (c t cap : Int) (adj : Bool) : ofS s j c t cap adj = ofS s' j c t cap adj := by
  have hx : rd_T70 s j = rd_T70 s' j := by rw [rd_T hj, rd_T hj', at_take h hj hj']
  have hp := fun arm => predict_prefix (take_less h) hj hj' (by rw [hx]) arm cap
  unfold ofS okS
  rw [hx, hp 1, hp 2, Int.toNat_natCast, h, show decide (0 ≤ (j : Int) ∧ (j : Int) < s.length ∧ 1 ≤ c ∧ c ≤ 10000 ∧ 1 ≤ t ∧ t ≤ 10000 ∧ 1 ≤ cap ∧ cap ≤ 1048576) = decide (0 ≤ (j : Int) ∧ (j : Int) < s'.length ∧ 1 ≤ c ∧ c ≤ 10000 ∧ 1 ≤ t ∧ t ≤ 10000 ∧ 1 ≤ cap ∧ cap ≤ 1048576) from by
    congr 1; apply propext; omega]
theorem one_prefix {s s' : List S70} {j : Nat} (h : s.take (j + 1) = s'.take (j + 1)) (hj : j < s.length) (hj' : j < s'.length) (w : List S65) (cap : Int) (adj : Bool) : oneS s w cap adj j s[j].f0.f5 = oneS s' w cap adj j s'[j].f0.f5 := by
  unfold oneS
  rw [at_take h hj hj']
  cases w.find? (fun y => y.f0 = s'[j].f0.f5) with
  | none => rfl
  | some y => simp only; rw [of_prefix h hj hj']

/-! The scores of more samples. -/
theorem all_append (s : List S70) (w : List S65) (cap : Int) (adj : Bool) (x : S70) : ∀ (l : List S70) (i : Nat), allS s w cap adj i (l ++ [x]) = allS s w cap adj i l ++ (oneS s w cap adj ((i + l.length : Nat) : Int) x.f0.f5).toList
  | [], i => by simp [allS]
  | y :: l, i => by
    rw [List.cons_append]
    simp only [allS]
    rw [all_append s w cap adj x l (i + 1), List.append_assoc, List.length_cons, show i + 1 + l.length = i + (l.length + 1) by omega]
theorem all_cong {s s' : List S70} (w : List S65) (cap : Int) (adj : Bool) : ∀ m i : Nat, i + m = s.length → (∀ j : Nat, i ≤ j → ∀ h : j < s.length, oneS s' w cap adj j s[j].f0.f5 = oneS s w cap adj j s[j].f0.f5) → allS s' w cap adj i (s.drop i) = allS s w cap adj i (s.drop i)
  | 0, i, h, _ => by rw [List.drop_of_length_le (by omega)]; rfl
  | m + 1, i, h, hj => by
    have hi : i < s.length := by omega
    rw [List.drop_eq_getElem_cons hi]
    simp only [allS]
    rw [hj i (Nat.le_refl _) hi, all_cong w cap adj m (i + 1) (by omega) (fun j h1 h2 => hj j (by omega) h2)]
theorem all_more (s : List S70) (w : List S65) (cap : Int) (adj : Bool) (x : S70) : allS (s ++ [x]) w cap adj 0 (s ++ [x]) = allS s w cap adj 0 s ++ (oneS (s ++ [x]) w cap adj (s.length : Int) x.f0.f5).toList := by
  rw [all_append, Nat.zero_add]
  congr 1
  have := all_cong (s := s) (s' := s ++ [x]) w cap adj s.length 0 (by omega) (fun j _ hj => by
    have e : (s ++ [x]).take (j + 1) = s.take (j + 1) := List.take_append_of_le_length (by omega)
    have := one_prefix e (by simp; omega) hj w cap adj
    rw [← this]
    congr 1
    rw [List.getElem_append_left hj])
  simpa using this
/-- A sample of the population. -/
def PopIn (x : S70) : Prop := (x.f0.f4 = 1 ∨ x.f0.f4 = 2) ∧ x.f0.f5 = 1 ∧ 0 ≤ x.f1 ∧ x.f1 ≤ 20
def wS (c t : Int) : List S65 := [⟨1, c, t⟩]
/-- The score of the sample that comes next. -/
def zS (s : List S70) (c t : Int) (adj : Bool) (x : S70) : S50 := ⟨(ofS (s ++ [x]) (s.length : Int) c t 20 adj).1, (ofS (s ++ [x]) (s.length : Int) c t 20 adj).2.1, (ofS (s ++ [x]) (s.length : Int) c t 20 adj).2.2.1⟩
theorem rd_end (s : List S70) (x : S70) : rd_T70 (s ++ [x]) (s.length : Int) = x := by
  rw [rd_T (by simp)]
  simp
theorem ok_next {s : List S70} {c t : Int} {x : S70} (hc : 1 ≤ c ∧ c ≤ 3) (ht : 1 ≤ t ∧ t ≤ 3) (hs : ∀ y ∈ s, PopIn y) (hx : PopIn x) : okS (s ++ [x]) (s.length : Int) c t 20 = true := by
  unfold okS
  rw [rd_end, decide_eq_true (by rw [List.length_append, List.length_singleton]; omega), decide_eq_true hx.1, Int.toNat_natCast]
  simp only [Bool.true_and, Bool.and_true, List.all_eq_true, decide_eq_true_eq]
  intro y hy
  rcases List.mem_append.mp (List.mem_of_mem_take hy) with hy | hy
  · exact (hs y hy).2.2
  · rw [List.mem_singleton] at hy
    subst hy
    exact hx.2.2
theorem all_next {s : List S70} {c t : Int} {adj : Bool} {x : S70} (hc : 1 ≤ c ∧ c ≤ 3) (ht : 1 ≤ t ∧ t ≤ 3) (hs : ∀ y ∈ s, PopIn y) (hx : PopIn x) : allS (s ++ [x]) (wS c t) 20 adj 0 (s ++ [x]) = allS s (wS c t) 20 adj 0 s ++ [zS s c t adj x] := by
  rw [all_more]
  congr 1
  have f : (wS c t).find? (fun y => y.f0 = x.f0.f5) = some ⟨1, c, t⟩ := by rw [hx.2.1]; rfl
  unfold oneS
  rw [f]
  simp only
  rw [of_flag, ok_next hc ht hs hx, if_pos rfl]
  rfl
theorem all_len {c t : Int} {adj : Bool} (hc : 1 ≤ c ∧ c ≤ 3) (ht : 1 ≤ t ∧ t ≤ 3) : ∀ (n : Nat) (s : List S70), s.length = n → (∀ y ∈ s, PopIn y) → (allS s (wS c t) 20 adj 0 s).length = n
  | 0, s, h, _ => by
    have : s = [] := List.eq_nil_of_length_eq_zero h
    subst this; rfl
  | n + 1, s, h, hs => by
    have hne : s ≠ [] := fun e => by subst e; simp at h
    obtain ⟨s', x, rfl⟩ : ∃ s' x, s = s' ++ [x] := ⟨s.dropLast, s.getLast hne, (List.dropLast_concat_getLast hne).symm⟩
    have h1 : ∀ y ∈ s', PopIn y := fun y hy => hs y (List.mem_append_left _ hy)
    have h2 : PopIn x := hs _ (List.mem_append_right _ (List.mem_singleton.mpr rfl))
    rw [all_next hc ht h1 h2, List.length_append, all_len hc ht n s' (by simpa using h) h1]
    rfl
/-- The two scores of a subject: in one arm and in the other. -/
theorem z_pair {s : List S70} {c t : Int} {adj : Bool} {x y : S70} (hl : s.length ≤ 1000) (hc : 1 ≤ c ∧ c ≤ 3) (ht : 1 ≤ t ∧ t ≤ 3) (hs : ∀ y ∈ s, PopIn y) (hx : PopIn x) (hy : PopIn y) (ax : x.f0.f4 = 1) (ay : y.f0.f4 = 2) (hb : x.f3 = y.f3) :
    (zS s c t adj x).f1 = c * t * 20 ∧ (zS s c t adj y).f1 = c * t * 20 ∧ (zS s c t adj x).f2 = 20 * (2 * (c * t) + (c + t) * mx c t) ∧ (zS s c t adj y).f2 = 20 * (2 * (c * t) + (c + t) * mx c t) ∧
    validS (zS s c t adj x).f0 (zS s c t adj x).f1 (zS s c t adj x).f2 = true ∧ validS (zS s c t adj y).f0 (zS s c t adj y).f1 (zS s c t adj y).f2 = true ∧
    c * (zS s c t adj x).f0 + t * (zS s c t adj y).f0 = c * t * (c + t) * (y.f1 - x.f1) := by
  obtain ⟨p1, p2, _, _, _, _, e1, e2, e, v1, v2, v3, v4, v5⟩ := of_good (adj := adj) (by rw [List.length_append, List.length_singleton]; omega) (ok_next hc ht hs hx)
  obtain ⟨q1, q2, _, _, _, _, f1, f2, f, u1, u2, u3, u4, u5⟩ := of_good (adj := adj) (by rw [List.length_append, List.length_singleton]; omega) (ok_next hc ht hs hy)
  have hp : ∀ arm, predictS (s ++ [x]) (s.length : Int) arm 20 = predictS (s ++ [y]) (s.length : Int) arm 20 := fun arm =>
    predict_prefix (by rw [List.take_left', List.take_left'] <;> rfl) (by simp) (by simp) (by rw [rd_end, rd_end, hb]) arm 20
  rw [hp] at e1
  rw [hp] at e2
  have r1 : p1 = q1 := e1.trans f1.symm
  have r2 : p2 = q2 := e2.trans f2.symm
  subst r1 r2
  rw [rd_end, ax, if_pos rfl] at e
  rw [rd_end, ay, if_neg (by decide)] at f
  unfold zS
  refine ⟨by rw [e], by rw [f], by rw [e], by rw [f], validS_iff.mpr ⟨v1, v2, v3, v4, v5⟩, validS_iff.mpr ⟨u1, u2, u3, u4, u5⟩, ?_⟩
  rw [e, f]
  simp only
  grind

/-! Sums over the kinds. -/
def sumK (f : S36 → Int) : List S36 → Int
  | [] => 0
  | k :: l => f k + sumK f l
theorem sumK_le {f g : S36 → Int} : ∀ (l : List S36), (∀ k ∈ l, f k ≤ g k) → sumK f l ≤ sumK g l
  | [], _ => Int.le_refl _
  | k :: l, h => by
    have h1 := h k (List.mem_cons_self ..)
    have h2 := sumK_le l (fun k hk => h k (List.mem_cons_of_mem _ hk))
    simp only [sumK]
    omega
theorem sumK_mul (f : S36 → Int) (a : Int) : ∀ l : List S36, sumK f l * a = sumK (fun k => f k * a) l
  | [] => by simp [sumK]
  | k :: l => by simp only [sumK]; rw [Int.add_mul, sumK_mul f a l]
theorem sumK_add (f g : S36 → Int) : ∀ l : List S36, sumK (fun k => f k + g k) l = sumK f l + sumK g l
  | [] => by simp [sumK]
  | k :: l => by simp only [sumK]; rw [sumK_add f g l]; omega
theorem sumK_congr {f g : S36 → Int} (l : List S36) (h : ∀ k ∈ l, f k = g k) : sumK f l = sumK g l := Int.le_antisymm (sumK_le l (fun k hk => Int.le_of_eq (h k hk))) (sumK_le l (fun k hk => Int.le_of_eq (h k hk).symm))
/-- A bet's wealth, times the denominator. -/
theorem bet_le {e b w : Int} {up : Bool} {z : S50} (hv : validS z.f0 z.f1 z.f2 = true) (he0 : -1000 ≤ e) (he1 : e ≤ 1000) (hb0 : 0 ≤ b) (hb : b ≤ 4) (hw : 0 ≤ w) :
    betS e up b w z * (8000 * z.f2) ≤ w * (8000 * z.f2 + (if up = true then b * (1000 * z.f0 - z.f1 * e) else -(b * (1000 * z.f0 - z.f1 * e)))) := by
  obtain ⟨v1, v2, v3, v4, v5⟩ := validS_iff.mp hv
  have g := gain_bound hv he0 he1 hb0 hb
  unfold betS
  rw [factor_at hv he0 he1 hb0 hb]
  simp only
  rw [show 1000 * 8 * z.f2 = 8000 * z.f2 by omega]
  have hn : 0 ≤ (if up = true then b * (1000 * z.f0 - z.f1 * e) else -(b * (1000 * z.f0 - z.f1 * e))) + 4000 * z.f2 := by split <;> omega
  generalize (if up = true then b * (1000 * z.f0 - z.f1 * e) else -(b * (1000 * z.f0 - z.f1 * e))) = G at *
  have hwn : 0 ≤ w * (8000 * z.f2 + G) := Int.mul_nonneg hw (by omega)
  have hq : w * (8000 * z.f2 + G) / (8000 * z.f2) * (8000 * z.f2) ≤ w * (8000 * z.f2 + G) := Int.ediv_mul_le _ (by omega)
  unfold growS
  split
  · omega
  · split
    · exact hq
    · rename_i h1 h2
      have : 2305843009213693952 * (8000 * z.f2) ≤ w * (8000 * z.f2 + G) / (8000 * z.f2) * (8000 * z.f2) := Int.mul_le_mul_of_nonneg_right (by omega) (by omega)
      omega

/-! The three bets of a side, after some scores. -/
def stS (e : Int) (up : Bool) : Int → Int → Int → List S50 → Int × Int × Int
  | a, b, c, [] => (a, b, c)
  | a, b, c, s :: l => stS e up (betS e up 1 a s) (betS e up 2 b s) (betS e up 4 c s) l
theorem st_more (e : Int) (up : Bool) (z : S50) : ∀ (l : List S50) (a b c : Int), stS e up a b c (l ++ [z]) = (betS e up 1 (stS e up a b c l).1 z, betS e up 2 (stS e up a b c l).2.1 z, betS e up 4 (stS e up a b c l).2.2 z)
  | [], _, _, _ => rfl
  | s :: l, a, b, c => by
    rw [List.cons_append]
    simp only [stS]
    exact st_more e up z l _ _ _
theorem path_more (e : Int) (up : Bool) (z : S50) : ∀ (l : List S50) (a b c : Int), pathS e up a b c (l ++ [z]) = pathS e up a b c l ++ [((stS e up a b c (l ++ [z])).1 + (stS e up a b c (l ++ [z])).2.1 + (stS e up a b c (l ++ [z])).2.2) / 3]
  | [], _, _, _ => rfl
  | s :: l, a, b, c => by
    rw [List.cons_append]
    simp only [pathS, stS]
    rw [path_more e up z l]
    rfl
theorem st_in (e : Int) (up : Bool) : ∀ (l : List S50) (a b c : Int), 0 ≤ a → 0 ≤ b → 0 ≤ c → 0 ≤ (stS e up a b c l).1 ∧ 0 ≤ (stS e up a b c l).2.1 ∧ 0 ≤ (stS e up a b c l).2.2
  | [], _, _, _, ha, hb, hc => ⟨ha, hb, hc⟩
  | s :: l, a, b, c, _, _, _ => st_in e up l _ _ _ (betS_range _ _ _ _ _).1 (betS_range _ _ _ _ _).1 (betS_range _ _ _ _ _).1
/-- Three times the wealth of a side. -/
def sideS (e : Int) (up : Bool) (l : List S50) : Int := (stS e up 4294967296 4294967296 4294967296 l).1 + (stS e up 4294967296 4294967296 4294967296 l).2.1 + (stS e up 4294967296 4294967296 4294967296 l).2.2
theorem side_nonneg (e : Int) (up : Bool) (l : List S50) : 0 ≤ sideS e up l := by
  have := st_in e up l 4294967296 4294967296 4294967296 (by decide) (by decide) (by decide)
  unfold sideS
  omega
theorem wealth_more (e : Int) (up : Bool) (l : List S50) (z : S50) : wealthS e up (l ++ [z]) = wealthS e up l ++ [sideS e up (l ++ [z]) / 3] := path_more e up z l _ _ _
theorem rd_left {xs ys : List Int} {i : Nat} (h : i < xs.length) : rd (xs ++ ys) (i : Int) = rd xs (i : Int) := by
  unfold rd
  rw [Int.toNat_natCast, List.getD_eq_getElem?_getD, List.getD_eq_getElem?_getD, List.getElem?_append_left h]
theorem rd_last {xs : List Int} {y : Int} {i : Nat} (h : i = xs.length) : rd (xs ++ [y]) (i : Int) = y := by
  subst h
  unfold rd
  simp
/-- Excluded behind one more score: excluded before, or now. -/
theorem ex_next {thr e : Int} {up : Bool} {l : List S50} {z : S50} (hl : l.length < 1000000) : exB thr up (l ++ [z]) ((l ++ [z]).length : Int) e = true ↔ exB thr up l (l.length : Int) e = true ∨ thr ≤ sideS e up (l ++ [z]) / 3 := by
  have h1 : (l ++ [z]).length = l.length + 1 := by simp
  rw [exB_iff (by omega) (by omega), exB_iff (by omega) (by omega), wealth_more]
  have hw : (wealthS e up l).length = l.length := wealthS_length _ _ _
  constructor
  · rintro ⟨i, a, _, c⟩
    rcases Nat.lt_or_ge i l.length with h | h
    · rw [rd_left (by omega)] at c
      exact .inl ⟨i, h, by omega, c⟩
    · rw [rd_last (by omega)] at c
      exact .inr c
  · rintro (⟨i, a, _, c⟩ | c)
    · exact ⟨i, by omega, by omega, by rw [rd_left (by omega)]; exact c⟩
    · exact ⟨l.length, by omega, by omega, by rw [rd_last (by omega)]; exact c⟩

/-! One more subject, on average. -/
section
variable {c t e : Int} {K : List S36} {num y1 y2 : S36 → Int} {z1 z2 : S36 → S50}
/-- What a kind gains on average, times what there is to divide by. -/
def gainK (c t e : Int) (y1 y2 : S36 → Int) (k : S36) : Int := 1000 * (c * t * (c + t) * (y2 k - y1 k)) - (c + t) * (c * t * 20) * e
/-- The scores of the kinds, in both arms. -/
structure Pairs (c t : Int) (K : List S36) (y1 y2 : S36 → Int) (z1 z2 : S36 → S50) : Prop where
  u1 : ∀ k ∈ K, (z1 k).f1 = c * t * 20
  u2 : ∀ k ∈ K, (z2 k).f1 = c * t * 20
  r1 : ∀ k ∈ K, (z1 k).f2 = 20 * (2 * (c * t) + (c + t) * mx c t)
  r2 : ∀ k ∈ K, (z2 k).f2 = 20 * (2 * (c * t) + (c + t) * mx c t)
  v1 : ∀ k ∈ K, validS (z1 k).f0 (z1 k).f1 (z1 k).f2 = true
  v2 : ∀ k ∈ K, validS (z2 k).f0 (z2 k).f1 (z2 k).f2 = true
  m : ∀ k ∈ K, c * (z1 k).f0 + t * (z2 k).f0 = c * t * (c + t) * (y2 k - y1 k)
theorem bet_fair {b w : Int} {up : Bool} (hp : Pairs c t K y1 y2 z1 z2) (hc : 0 ≤ c) (ht : 0 ≤ t) (hn : ∀ k ∈ K, 0 ≤ num k) (he0 : -1000 ≤ e) (he1 : e ≤ 1000) (hb0 : 0 ≤ b) (hb : b ≤ 4) (hw : 0 ≤ w)
    (h0 : sumK (fun k => num k * gainK c t e y1 y2 k) K = 0) (hr : 0 < 20 * (2 * (c * t) + (c + t) * mx c t)) :
    sumK (fun k => num k * (c * betS e up b w (z1 k) + t * betS e up b w (z2 k))) K ≤ w * (sumK num K * (c + t)) := by
  generalize hR : 20 * (2 * (c * t) + (c + t) * mx c t) = R at *
  refine Int.le_of_mul_le_mul_right (a := 8000 * R) ?_ (by omega)
  rw [sumK_mul]
  have hterm : ∀ k ∈ K, num k * (c * betS e up b w (z1 k) + t * betS e up b w (z2 k)) * (8000 * R) ≤ num k * (w * (c + t) * (8000 * R)) + (if up = true then w * b else -(w * b)) * (num k * gainK c t e y1 y2 k) := fun k hk => by
    have l1 := bet_le (e := e) (b := b) (w := w) (up := up) (hp.v1 k hk) he0 he1 hb0 hb hw
    have l2 := bet_le (e := e) (b := b) (w := w) (up := up) (hp.v2 k hk) he0 he1 hb0 hb hw
    have r1 := (hp.r1 k hk).trans hR
    have r2 := (hp.r2 k hk).trans hR
    rw [r1] at l1
    rw [r2] at l2
    have m1 := Int.mul_le_mul_of_nonneg_left l1 hc
    have m2 := Int.mul_le_mul_of_nonneg_left l2 ht
    have m3 : c * (betS e up b w (z1 k) * (8000 * R)) + t * (betS e up b w (z2 k) * (8000 * R)) ≤ w * (c + t) * (8000 * R) + (if up = true then w * b else -(w * b)) * gainK c t e y1 y2 k := by
      refine Int.le_trans (Int.add_le_add m1 m2) (Int.le_of_eq ?_)
      have g : gainK c t e y1 y2 k = 1000 * (c * (z1 k).f0 + t * (z2 k).f0) - (c + t) * (c * t * 20) * e := by unfold gainK; rw [hp.m k hk]
      rw [g, hp.u1 k hk, hp.u2 k hk]
      cases up
      · simp only [Bool.false_eq_true, if_false]; grind
      · simp only [if_true]; grind
    have m4 := Int.mul_le_mul_of_nonneg_left m3 (hn k hk)
    refine Int.le_trans (Int.le_of_eq ?_) (Int.le_trans m4 (Int.le_of_eq ?_))
    · grind
    · grind
  refine Int.le_trans (sumK_le K hterm) (Int.le_of_eq ?_)
  rw [sumK_add]
  have e1 : sumK (fun k => (if up = true then w * b else -(w * b)) * (num k * gainK c t e y1 y2 k)) K = 0 := by
    have := sumK_mul (fun k => num k * gainK c t e y1 y2 k) (if up = true then w * b else -(w * b)) K
    rw [h0, Int.zero_mul] at this
    rw [this]
    exact sumK_congr K (fun k _ => Int.mul_comm _ _)
  have e2 : sumK (fun k => num k * (w * (c + t) * (8000 * R))) K = sumK num K * (w * (c + t) * (8000 * R)) := (sumK_mul num _ K).symm
  rw [e1, e2]
  grind
theorem side_fair {up : Bool} {l : List S50} (hp : Pairs c t K y1 y2 z1 z2) (hc : 0 ≤ c) (ht : 0 ≤ t) (hn : ∀ k ∈ K, 0 ≤ num k) (he0 : -1000 ≤ e) (he1 : e ≤ 1000)
    (h0 : sumK (fun k => num k * gainK c t e y1 y2 k) K = 0) (hr : 0 < 20 * (2 * (c * t) + (c + t) * mx c t)) :
    sumK (fun k => num k * (c * sideS e up (l ++ [z1 k]) + t * sideS e up (l ++ [z2 k]))) K ≤ sideS e up l * (sumK num K * (c + t)) := by
  have st := st_in e up l 4294967296 4294967296 4294967296 (by decide) (by decide) (by decide)
  have b1 := bet_fair (b := 1) (up := up) (num := num) (e := e) hp hc ht hn he0 he1 (by decide) (by decide) st.1 h0 hr
  have b2 := bet_fair (b := 2) (up := up) (num := num) (e := e) hp hc ht hn he0 he1 (by decide) (by decide) st.2.1 h0 hr
  have b4 := bet_fair (b := 4) (up := up) (num := num) (e := e) hp hc ht hn he0 he1 (by decide) (by decide) st.2.2 h0 hr
  have e1 : sumK (fun k => num k * (c * sideS e up (l ++ [z1 k]) + t * sideS e up (l ++ [z2 k]))) K =
      sumK (fun k => num k * (c * betS e up 1 (stS e up 4294967296 4294967296 4294967296 l).1 (z1 k) + t * betS e up 1 (stS e up 4294967296 4294967296 4294967296 l).1 (z2 k))) K +
      (sumK (fun k => num k * (c * betS e up 2 (stS e up 4294967296 4294967296 4294967296 l).2.1 (z1 k) + t * betS e up 2 (stS e up 4294967296 4294967296 4294967296 l).2.1 (z2 k))) K +
      sumK (fun k => num k * (c * betS e up 4 (stS e up 4294967296 4294967296 4294967296 l).2.2 (z1 k) + t * betS e up 4 (stS e up 4294967296 4294967296 4294967296 l).2.2 (z2 k))) K) := by
    rw [← sumK_add, ← sumK_add]
    refine sumK_congr K (fun k _ => ?_)
    unfold sideS
    rw [st_more, st_more]
    simp only
    grind
  rw [e1]
  have e2 : sideS e up l * (sumK num K * (c + t)) = (stS e up 4294967296 4294967296 4294967296 l).1 * (sumK num K * (c + t)) + ((stS e up 4294967296 4294967296 4294967296 l).2.1 * (sumK num K * (c + t)) + (stS e up 4294967296 4294967296 4294967296 l).2.2 * (sumK num K * (c + t))) := by
    unfold sideS
    rw [Int.add_mul, Int.add_mul]
    omega
  rw [e2]
  omega
end

def numK (k : S36) : Int := 1 + k.f0 % 3
def oneK (k : S36) : Int := k.f2 % 21
def twoK (k : S36) : Int := k.f3 % 21
/-- A subject of a kind, in arm 1 and in arm 2. -/
def x1K (k : S36) : S70 := ⟨⟨⟨#[]⟩, ⟨#[]⟩, 0, 0, 1, 1⟩, oneK k, 0, k.f1 % 3, false⟩
def x2K (k : S36) : S70 := ⟨⟨⟨#[]⟩, ⟨#[]⟩, 0, 0, 2, 1⟩, twoK k, 0, k.f1 % 3, false⟩
theorem x1_in (k : S36) : PopIn (x1K k) := ⟨.inl rfl, rfl, by show 0 ≤ k.f2 % 21; omega, by show k.f2 % 21 ≤ 20; omega⟩
theorem x2_in (k : S36) : PopIn (x2K k) := ⟨.inr rfl, rfl, by show 0 ≤ k.f3 % 21; omega, by show k.f3 % 21 ≤ 20; omega⟩
section
variable (thr e c t : Int) (adj : Bool) (K : List S36)
def scoresOf (s : List S70) : List S50 := allS s (wS c t) 20 adj 0 s
/-- Is the effect excluded by the scores of these samples. -/
def exS (s : List S70) : Bool := exB thr true (scoresOf c t adj s) ((scoresOf c t adj s).length : Int) e || exB thr false (scoresOf c t adj s) ((scoresOf c t adj s).length : Int) e
def allP : Int := sumK numK K * (c + t)
def missS : Nat → List S70 → Int
  | 0, s => if exS thr e c t adj s = true then 1 else 0
  | r + 1, s => if exS thr e c t adj s = true then allP c t K ^ (r + 1) else sumK (fun k => numK k * (c * missS r (s ++ [x1K k]) + t * missS r (s ++ [x2K k]))) K
end
section
variable {thr e c t : Int} {adj : Bool} {K : List S36}
theorem num_pos (k : S36) : 1 ≤ numK k ∧ numK k ≤ 3 := by unfold numK; omega
theorem sum_num_nonneg : ∀ K : List S36, 0 ≤ sumK numK K
  | [] => Int.le_refl _
  | k :: K => by have := num_pos k; have := sum_num_nonneg K; simp only [sumK]; omega
theorem allP_nonneg (hc : 1 ≤ c) (ht : 1 ≤ t) : 0 ≤ allP c t K := Int.mul_nonneg (sum_num_nonneg K) (by omega)
theorem miss_in (hc : 1 ≤ c) (ht : 1 ≤ t) : ∀ (r : Nat) (s : List S70), 0 ≤ missS thr e c t adj K r s ∧ missS thr e c t adj K r s ≤ allP c t K ^ r
  | 0, s => by unfold missS; split <;> simp
  | r + 1, s => by
    have hP := allP_nonneg (K := K) hc ht
    have hPr : 0 ≤ allP c t K ^ r := Int.pow_nonneg hP
    unfold missS
    split
    · exact ⟨Int.pow_nonneg hP, Int.le_refl _⟩
    · have hk : ∀ k ∈ K, 0 ≤ numK k * (c * missS thr e c t adj K r (s ++ [x1K k]) + t * missS thr e c t adj K r (s ++ [x2K k])) ∧ numK k * (c * missS thr e c t adj K r (s ++ [x1K k]) + t * missS thr e c t adj K r (s ++ [x2K k])) ≤ numK k * ((c + t) * allP c t K ^ r) := fun k _ => by
        have a := miss_in hc ht r (s ++ [x1K k])
        have b := miss_in hc ht r (s ++ [x2K k])
        have n := num_pos k
        have a1 := Int.mul_nonneg (show 0 ≤ c by omega) a.1
        have b1 := Int.mul_nonneg (show 0 ≤ t by omega) b.1
        have a2 := Int.mul_le_mul_of_nonneg_left a.2 (show 0 ≤ c by omega)
        have b2 := Int.mul_le_mul_of_nonneg_left b.2 (show 0 ≤ t by omega)
        exact ⟨Int.mul_nonneg (by omega) (by omega), Int.mul_le_mul_of_nonneg_left (by rw [Int.add_mul]; omega) (by omega)⟩
      constructor
      · have : sumK (fun _ => (0 : Int)) K ≤ sumK (fun k => numK k * (c * missS thr e c t adj K r (s ++ [x1K k]) + t * missS thr e c t adj K r (s ++ [x2K k]))) K := sumK_le K (fun k h => (hk k h).1)
        have z : ∀ K : List S36, sumK (fun _ => (0 : Int)) K = 0 := fun K => by
          induction K with
          | nil => rfl
          | cons k K ih => simp only [sumK, ih]; rfl
        rw [z] at this
        exact this
      · refine Int.le_trans (sumK_le K (fun k h => (hk k h).2)) (Int.le_of_eq ?_)
        rw [← sumK_mul, Int.pow_succ]
        unfold allP
        grind
theorem scores_next {s : List S70} {x : S70} (hc : 1 ≤ c ∧ c ≤ 3) (ht : 1 ≤ t ∧ t ≤ 3) (hs : ∀ y ∈ s, PopIn y) (hx : PopIn x) : scoresOf c t adj (s ++ [x]) = scoresOf c t adj s ++ [zS s c t adj x] := all_next hc ht hs hx
theorem pop_more {s : List S70} {x : S70} (hs : ∀ y ∈ s, PopIn y) (hx : PopIn x) : ∀ y ∈ s ++ [x], PopIn y := fun y hy => by
  rcases List.mem_append.mp hy with hy | hy
  · exact hs y hy
  · rw [List.mem_singleton] at hy; subst hy; exact hx
theorem pairs {s : List S70} (hl : s.length ≤ 1000) (hc : 1 ≤ c ∧ c ≤ 3) (ht : 1 ≤ t ∧ t ≤ 3) (hs : ∀ y ∈ s, PopIn y) : Pairs c t K oneK twoK (fun k => zS s c t adj (x1K k)) (fun k => zS s c t adj (x2K k)) := by
  have p := fun k : S36 => z_pair (adj := adj) hl hc ht hs (x1_in k) (x2_in k) rfl rfl rfl
  exact ⟨fun k _ => (p k).1, fun k _ => (p k).2.1, fun k _ => (p k).2.2.1, fun k _ => (p k).2.2.2.1, fun k _ => (p k).2.2.2.2.1, fun k _ => (p k).2.2.2.2.2.1, fun k _ => (p k).2.2.2.2.2.2⟩
/-- Both sides together. -/
def bothS (e : Int) (l : List S50) : Int := sideS e true l + sideS e false l
theorem miss_rare (hc : 1 ≤ c ∧ c ≤ 3) (ht : 1 ≤ t ∧ t ≤ 3) (he0 : -1000 ≤ e) (he1 : e ≤ 1000) (h0 : sumK (fun k => numK k * gainK c t e oneK twoK k) K = 0) :
    ∀ (r : Nat) (s : List S70), s.length + r ≤ 100 → (∀ y ∈ s, PopIn y) → (exS thr e c t adj s = true → 3 * thr ≤ bothS e (scoresOf c t adj s)) →
    missS thr e c t adj K r s * (3 * thr) ≤ allP c t K ^ r * bothS e (scoresOf c t adj s) := by
  have hP := allP_nonneg (K := K) hc.1 ht.1
  have hr0 : 0 < 20 * (2 * (c * t) + (c + t) * mx c t) := by
    have := parts_in hc.1 (by omega) ht.1 (by omega) (show 1 ≤ (20 : Int) by decide) (by decide)
    omega
  intro r
  induction r with
  | zero =>
    intro s _ _ hf
    have b0 : 0 ≤ bothS e (scoresOf c t adj s) := by unfold bothS; have := side_nonneg e true (scoresOf c t adj s); have := side_nonneg e false (scoresOf c t adj s); omega
    unfold missS
    split
    · rename_i h; have := hf h; simp; omega
    · simp; exact b0
  | succ r ih =>
    intro s hl hs hf
    unfold missS
    split
    · rename_i h
      exact Int.mul_le_mul_of_nonneg_left (hf h) (Int.pow_nonneg hP)
    · rename_i h
      have lx : (scoresOf c t adj s).length = s.length := all_len hc ht s.length s rfl hs
      have fresh : ∀ x, PopIn x → exS thr e c t adj (s ++ [x]) = true → 3 * thr ≤ bothS e (scoresOf c t adj (s ++ [x])) := by
        intro x hx hex
        have hn : exS thr e c t adj s = false := Bool.eq_false_iff.mpr h
        unfold exS at hex hn
        rw [Bool.or_eq_false_iff] at hn
        rw [scores_next hc ht hs hx] at hex ⊢
        have s1 := side_nonneg e true (scoresOf c t adj s ++ [zS s c t adj x])
        have s2 := side_nonneg e false (scoresOf c t adj s ++ [zS s c t adj x])
        unfold bothS
        rcases Bool.or_eq_true _ _ |>.mp hex with q | q
        · rcases (ex_next (by omega)).mp q with q | q
          · rw [hn.1] at q; cases q
          · omega
        · rcases (ex_next (by omega)).mp q with q | q
          · rw [hn.2] at q; cases q
          · omega
      have f1 := side_fair (up := true) (num := numK) (e := e) (l := scoresOf c t adj s) (pairs (K := K) (adj := adj) (by omega) hc ht hs) (by omega) (by omega) (fun k _ => by have := num_pos k; omega) he0 he1 h0 hr0
      have f2 := side_fair (up := false) (num := numK) (e := e) (l := scoresOf c t adj s) (pairs (K := K) (adj := adj) (by omega) hc ht hs) (by omega) (by omega) (fun k _ => by have := num_pos k; omega) he0 he1 h0 hr0
      rw [sumK_mul]
      have hterm : ∀ k ∈ K, numK k * (c * missS thr e c t adj K r (s ++ [x1K k]) + t * missS thr e c t adj K r (s ++ [x2K k])) * (3 * thr) ≤
          (numK k * (c * sideS e true (scoresOf c t adj s ++ [zS s c t adj (x1K k)]) + t * sideS e true (scoresOf c t adj s ++ [zS s c t adj (x2K k)])) + numK k * (c * sideS e false (scoresOf c t adj s ++ [zS s c t adj (x1K k)]) + t * sideS e false (scoresOf c t adj s ++ [zS s c t adj (x2K k)]))) * allP c t K ^ r := fun k _ => by
        have i1 := ih (s ++ [x1K k]) (by simp; omega) (pop_more hs (x1_in k)) (fresh _ (x1_in k))
        have i2 := ih (s ++ [x2K k]) (by simp; omega) (pop_more hs (x2_in k)) (fresh _ (x2_in k))
        rw [scores_next hc ht hs (x1_in k)] at i1
        rw [scores_next hc ht hs (x2_in k)] at i2
        unfold bothS at i1 i2
        have m1 := Int.mul_le_mul_of_nonneg_left i1 (show 0 ≤ c by omega)
        have m2 := Int.mul_le_mul_of_nonneg_left i2 (show 0 ≤ t by omega)
        have m3 := Int.mul_le_mul_of_nonneg_left (Int.add_le_add m1 m2) (show 0 ≤ numK k by have := num_pos k; omega)
        refine Int.le_trans (Int.le_of_eq ?_) (Int.le_trans m3 (Int.le_of_eq ?_))
        · grind
        · grind
      refine Int.le_trans (sumK_le K hterm) ?_
      rw [← sumK_mul, sumK_add]
      have m := Int.mul_le_mul_of_nonneg_right (Int.add_le_add f1 f2) (show 0 ≤ allP c t K ^ r from Int.pow_nonneg hP)
      refine Int.le_trans m (Int.le_of_eq ?_)
      unfold bothS
      rw [Int.pow_succ]
      unfold allP
      grind
/-- At most the level. -/
theorem level_holds {L : Int} (hL0 : 1 ≤ L) (hL1 : L ≤ 999) (hc : 1 ≤ c ∧ c ≤ 3) (ht : 1 ≤ t ∧ t ≤ 3) (he0 : -1000 ≤ e) (he1 : e ≤ 1000) (h0 : sumK (fun k => numK k * gainK c t e oneK twoK k) K = 0) (n : Nat) (hn : n ≤ 100) :
    missS (thresholdS L 2) e c t adj K n [] * 1000 ≤ L * allP c t K ^ n := by
  have hx : exS (thresholdS L 2) e c t adj [] = true → 3 * thresholdS L 2 ≤ bothS e (scoresOf c t adj []) := fun h => by
    exfalso
    unfold exS at h
    rw [show scoresOf c t adj [] = [] from rfl] at h
    rcases Bool.or_eq_true _ _ |>.mp h with q | q
    · obtain ⟨i, hi, _⟩ := (exB_iff (by decide) (by decide)).mp q
      exact absurd hi (by show ¬ i < 0; omega)
    · obtain ⟨i, hi, _⟩ := (exB_iff (by decide) (by decide)).mp q
      exact absurd hi (by show ¬ i < 0; omega)
  have r := miss_rare (thr := thresholdS L 2) (adj := adj) hc ht he0 he1 h0 n [] (by simpa using hn) (fun y hy => by cases hy) hx
  have hb : bothS e (scoresOf c t adj []) = 25769803776 := rfl
  rw [hb] at r
  have hm := (miss_in (thr := thresholdS L 2) (e := e) (adj := adj) (K := K) hc.1 ht.1 n []).1
  have hP : 0 ≤ allP c t K ^ n := Int.pow_nonneg (allP_nonneg (K := K) hc.1 ht.1)
  have hthr : 8589934592000 ≤ thresholdS L 2 * L := by
    unfold thresholdS
    rw [if_pos (by omega)]
    have d1 := Int.mul_ediv_add_emod (2 * 4294967296000 + L - 1) L
    have d2 := Int.emod_lt_of_pos (2 * 4294967296000 + L - 1) (show 0 < L by omega)
    rw [Int.mul_comm] at d1
    omega
  generalize missS (thresholdS L 2) e c t adj K n [] = m at *
  generalize allP c t K ^ n = p at *
  generalize thresholdS L 2 = thr at *
  have a1 : m * (3 * thr) * L ≤ p * 25769803776 * L := Int.mul_le_mul_of_nonneg_right r (by omega)
  have a2 : m * 8589934592000 ≤ m * (thr * L) := Int.mul_le_mul_of_nonneg_left hthr hm
  have a3 : m * (3 * thr) * L = 3 * (m * (thr * L)) := by grind
  have a4 : p * 25769803776 * L = 25769803776 * (L * p) := by grind
  rw [a3, a4] at a1
  omega
end

theorem rd_K {xs : List S36} {i : Nat} (h : i < xs.length) : rd_T36 xs (i : Int) = xs[i] := by
  unfold rd_T36
  simp [h]
def KindIn (k : S36) : Prop := (0 ≤ k.f0 ∧ k.f0 ≤ 255) ∧ (0 ≤ k.f1 ∧ k.f1 ≤ 255) ∧ (0 ≤ k.f2 ∧ k.f2 ≤ 255) ∧ (0 ≤ k.f3 ∧ k.f3 ≤ 255)
section
variable {e c t L : Int} {adj : Bool} {K : List S36} {n : Nat}
theorem pow_l0 (hP : 1 ≤ allP c t K) (hc : 1 ≤ c ∧ c ≤ 3) (ht : 1 ≤ t ∧ t ≤ 3) (hT : sumK numK K ≤ 1000) (hn : n ≤ 6) : ∀ (m i : Nat) (acc : Int), i + m = n → 0 ≤ acc → acc * allP c t K ^ m ≤ 100000000 →
    Ev (fun k => flagstonelaw41_population_misses.l0 k (n : Int) acc (i : Int) K (sumK numK K) c t e L adj) (acc * allP c t K ^ m) := by
  have hT0 := sum_num_nonneg K
  have hq := mul_le (x := sumK numK K) (y := c + t) (a := 1000) (b := 6) hT0 (by omega) hT (by omega)
  have hw : wrap64 (sumK numK K * wrap64 (c + t)) = allP c t K := by rw [w64_id (x := c + t) (by omega) (by omega), w64_id (by omega) (by omega)]; rfl
  intro m
  induction m with
  | zero =>
    intro i acc hi _ _
    refine Ev.step (fun k => by simp only [flagstonelaw41_population_misses.l0]; rfl) ?_
    rw [Int.pow_zero, Int.mul_one]
    exact Ev.neg (by omega) (Ev.now _)
  | succ m ih =>
    intro i acc hi h0 hb
    have hwi : wrap64 ((i : Int) + 1) = ((i + 1 : Nat) : Int) := by rw [w64_id (by omega) (by omega)]; omega
    have e1 : acc * allP c t K ^ (m + 1) = acc * allP c t K * allP c t K ^ m := by rw [Int.pow_succ]; grind
    have p1 : 1 ≤ allP c t K ^ m := by
      have : 0 < allP c t K ^ m := Int.pow_pos (by omega)
      omega
    have a0 : 0 ≤ acc * allP c t K := Int.mul_nonneg h0 (by omega)
    have a1 : acc * allP c t K * 1 ≤ acc * allP c t K * allP c t K ^ m := Int.mul_le_mul_of_nonneg_left p1 a0
    rw [e1] at hb ⊢
    refine Ev.step (fun k => by simp only [flagstonelaw41_population_misses.l0]; rfl) ?_
    rw [hw, hwi, w64_id (x := acc * allP c t K) (by omega) (by omega)]
    exact Ev.pos (by omega) (ih (i + 1) _ (by omega) a0 hb)
theorem x1_is {k : S36} (hk : KindIn k) : (⟨(⟨(⟨#[]⟩ : ByteArray), (⟨#[]⟩ : ByteArray), 0, 0, 1, 1⟩ : S68), Int.tmod (wrap64 k.f2) 21, 0, Int.tmod (wrap64 k.f1) 3, false⟩ : S70) = x1K k := by
  unfold x1K oneK
  rw [w64_id (x := k.f2) (by have := hk.2.2.1; omega) (by have := hk.2.2.1; omega), w64_id (x := k.f1) (by have := hk.2.1; omega) (by have := hk.2.1; omega), Int.tmod_eq_emod_of_nonneg hk.2.2.1.1, Int.tmod_eq_emod_of_nonneg hk.2.1.1]
theorem x2_is {k : S36} (hk : KindIn k) : (⟨(⟨(⟨#[]⟩ : ByteArray), (⟨#[]⟩ : ByteArray), 0, 0, 2, 1⟩ : S68), Int.tmod (wrap64 k.f3) 21, 0, Int.tmod (wrap64 k.f1) 3, false⟩ : S70) = x2K k := by
  unfold x2K twoK
  rw [w64_id (x := k.f3) (by have := hk.2.2.2; omega) (by have := hk.2.2.2; omega), w64_id (x := k.f1) (by have := hk.2.1; omega) (by have := hk.2.1; omega), Int.tmod_eq_emod_of_nonneg hk.2.2.2.1, Int.tmod_eq_emod_of_nonneg hk.2.1.1]
theorem num_is {k : S36} (hk : KindIn k) : wrap64 (1 + Int.tmod (wrap64 k.f0) 3) = numK k := by
  unfold numK
  have := hk.1
  rw [w64_id (x := k.f0) (by omega) (by omega), Int.tmod_eq_emod_of_nonneg hk.1.1, w64_id (by omega) (by omega)]
/-- What a kind adds. -/
def addK (f : List S70 → Int) (c t : Int) (s : List S70) (k : S36) : Int := numK k * (c * f (s ++ [x1K k]) + t * f (s ++ [x2K k]))
theorem l1_is {s : List S70} {f : List S70 → Int} (hs : s.length ≤ 6) (hc : 1 ≤ c ∧ c ≤ 3) (ht : 1 ≤ t ∧ t ≤ 3) (hK : ∀ k ∈ K, KindIn k) (hKl : K.length ≤ 2) (hf0 : ∀ s, 0 ≤ f s)
    (hf : ∀ k ∈ K, Ev (fun n' => flagstonelaw41_population_misses.f n' K (sumK numK K) c t e L adj (s ++ [x1K k]) (n : Int)) (f (s ++ [x1K k])) ∧ Ev (fun n' => flagstonelaw41_population_misses.f n' K (sumK numK K) c t e L adj (s ++ [x2K k]) (n : Int)) (f (s ++ [x2K k]))) :
    ∀ (m i : Nat) (acc : Int), i + m = K.length → 0 ≤ acc → acc + sumK (addK f c t s) (K.drop i) ≤ 100000000 →
    Ev (fun k => flagstonelaw41_population_misses.l1 k s (n : Int) acc (i : Int) K (sumK numK K) c t e L adj) (acc + sumK (addK f c t s) (K.drop i)) := by
  have hnn : ∀ l : List S36, 0 ≤ sumK (addK f c t s) l := fun l => by
    induction l with
    | nil => exact Int.le_refl _
    | cons k l ih =>
      simp only [sumK]
      have n1 := num_pos k
      have a := Int.mul_nonneg (show 0 ≤ c by omega) (hf0 (s ++ [x1K k]))
      have b := Int.mul_nonneg (show 0 ≤ t by omega) (hf0 (s ++ [x2K k]))
      have : 0 ≤ addK f c t s k := Int.mul_nonneg (by omega) (by omega)
      omega
  intro m
  induction m with
  | zero =>
    intro i acc hi _ _
    rw [List.drop_of_length_le (by omega)]
    refine Ev.step (fun k => by simp only [flagstonelaw41_population_misses.l1]; rfl) ?_
    simp only [sumK, Int.add_zero]
    exact Ev.neg (by omega) (Ev.now _)
  | succ m ih =>
    intro i acc hi h0 hb
    have hlt : i < K.length := by omega
    have hwi : wrap64 ((i : Int) + 1) = ((i + 1 : Nat) : Int) := by rw [w64_id (by omega) (by omega)]; omega
    have hk := hK _ (List.getElem_mem hlt)
    have hfk := hf _ (List.getElem_mem hlt)
    have rt := rd_K hlt
    rw [List.drop_eq_getElem_cons hlt] at hb ⊢
    simp only [sumK] at hb ⊢
    have hrest := hnn (K.drop (i + 1))
    have next := ih (i + 1)
    generalize K[i] = k at rt hb hk hfk ⊢
    have n1 := num_pos k
    have f1 := hf0 (s ++ [x1K k])
    have f2 := hf0 (s ++ [x2K k])
    have A1 : 0 ≤ c * numK k * f (s ++ [x1K k]) := Int.mul_nonneg (Int.mul_nonneg (by omega) (by omega)) f1
    have A2 : 0 ≤ t * numK k * f (s ++ [x2K k]) := Int.mul_nonneg (Int.mul_nonneg (by omega) (by omega)) f2
    have eA : addK f c t s k = c * numK k * f (s ++ [x1K k]) + t * numK k * f (s ++ [x2K k]) := by unfold addK; grind
    have c1 := mul_le (x := c) (y := numK k) (a := 3) (b := 3) (by omega) (by omega) (by omega) (by omega)
    have c2 := mul_le (x := t) (y := numK k) (a := 3) (b := 3) (by omega) (by omega) (by omega) (by omega)
    have w1 : wrap64 (1 + 1) = 2 := w64_id (by decide) (by decide)
    have w2 : wrap64 (2 + 1) = 3 := w64_id (by decide) (by decide)
    refine Ev.step (fun k => by simp only [flagstonelaw41_population_misses.l1]; rfl) ?_
    rw [rt]
    refine Ev.pos (by omega) (Ev.pos (by omega) ?_)
    refine Ev.step (fun k => by simp only [flagstonelaw41_population_misses.l2]; rfl) ?_
    refine Ev.pos (by decide) (Ev.neg (by decide) (Ev.bind (Ev.now _) (Ev.pos (by simp; omega) (Ev.bind (Ev.now _) (Ev.bind (Ev.now _) (Ev.pos (by simp; omega) ?_))))))
    rw [x1_is hk, List.nil_append, num_is hk]
    refine Ev.bind hfk.1 ?_
    rw [w64_id (x := c * numK k) (by omega) (by omega), w64_id (x := c * numK k * _) (by omega) (by omega), w64_id (x := acc + _) (by omega) (by omega), w1]
    refine Ev.step (fun k => by simp only [flagstonelaw41_population_misses.l2]; rfl) ?_
    refine Ev.pos (by decide) (Ev.pos (by decide) (Ev.bind (Ev.now _) (Ev.pos (by simp; omega) (Ev.bind (Ev.now _) (Ev.bind (Ev.now _) (Ev.pos (by simp; omega) ?_))))))
    rw [x2_is hk, List.nil_append, num_is hk]
    refine Ev.bind hfk.2 ?_
    rw [w64_id (x := t * numK k) (by omega) (by omega), w64_id (x := t * numK k * _) (by omega) (by omega), w64_id (x := acc + _ + _) (by omega) (by omega), w2]
    refine Ev.step (fun k => by simp only [flagstonelaw41_population_misses.l2]; rfl) ?_
    rw [hwi]
    have := next (acc + c * numK k * f (s ++ [x1K k]) + t * numK k * f (s ++ [x2K k])) (by omega) (by omega) (by omega)
    rw [show acc + (addK f c t s k + sumK (addK f c t s) (List.drop (i + 1) K)) = acc + c * numK k * f (s ++ [x1K k]) + t * numK k * f (s ++ [x2K k]) + sumK (addK f c t s) (List.drop (i + 1) K) by omega]
    exact Ev.neg (by decide) this
theorem misses_is (hc : 1 ≤ c ∧ c ≤ 3) (ht : 1 ≤ t ∧ t ≤ 3) (he0 : -1000 ≤ e) (he1 : e ≤ 1000) (hK : ∀ k ∈ K, KindIn k) (hKl : K.length ≤ 2) (hP : 1 ≤ allP c t K) (hT : sumK numK K ≤ 1000) (hn : n ≤ 6) (hB : ∀ r : Nat, r ≤ n → allP c t K ^ r ≤ 100000000) :
    ∀ (r : Nat) (s : List S70), s.length + r = n → (∀ y ∈ s, PopIn y) → Ev (fun k => flagstonelaw41_population_misses.f k K (sumK numK K) c t e L adj s (n : Int)) (missS (thresholdS L 2) e c t adj K r s) := by
  intro r
  induction r with
  | zero =>
    intro s hl hs
    have lx : (scoresOf c t adj s).length = s.length := all_len hc ht s.length s rfl hs
    have j0 : ∀ b, b = exS (thresholdS L 2) e c t adj s → Ev (fun k => flagstonelaw41_population_misses.j0 k s (n : Int) b K (sumK numK K) c t e L adj) (missS (thresholdS L 2) e c t adj K 0 s) := fun b hb => by
      unfold missS
      rw [← hb]
      refine Ev.step (fun k => by simp only [flagstonelaw41_population_misses.j0]; rfl) ?_
      cases b with
      | true =>
        refine Ev.pos rfl ?_
        have := pow_l0 (e := e) (L := L) (adj := adj) hP hc ht hT hn 0 s.length 1 (by omega) (by decide) (by rw [Int.pow_zero]; decide)
        simpa using this
      | false => exact Ev.neg (by decide) (Ev.pos (by omega) (Ev.now _))
    have lo := lowS_spec (thr := thresholdS L 2) (l := scoresOf c t adj s) (kk := (scoresOf c t adj s).length) (by omega) (by omega)
    have hi := highS_spec (thr := thresholdS L 2) (l := scoresOf c t adj s) (kk := (scoresOf c t adj s).length) (by omega) (by omega)
    refine Ev.step (fun k => by simp only [flagstonelaw41_population_misses.f]; rfl) ?_
    refine Ev.bind (All_is s (wS c t) 20 adj (by omega) (by simp [wS])) (Ev.bind (Lower_is (l := scoresOf c t adj s) L (by omega)) (Ev.both (fun h => j0 _ ?_) (fun h => Ev.bind (Upper_is (l := scoresOf c t adj s) L (by omega)) (j0 _ ?_))))
    · unfold exS
      rw [(lo.2.2 e he0 he1).mpr h]; rfl
    · unfold exS
      rw [Bool.eq_false_iff.mpr (fun q => h ((lo.2.2 e he0 he1).mp q)), Bool.false_or]
      exact Bool.eq_iff_iff.mpr (decide_eq_true_iff.trans (hi.2.2 e he0 he1).symm)
  | succ r ih =>
    intro s hl hs
    have lx : (scoresOf c t adj s).length = s.length := all_len hc ht s.length s rfl hs
    have j0 : ∀ b, b = exS (thresholdS L 2) e c t adj s → Ev (fun k => flagstonelaw41_population_misses.j0 k s (n : Int) b K (sumK numK K) c t e L adj) (missS (thresholdS L 2) e c t adj K (r + 1) s) := fun b hb => by
      have hm := miss_in (thr := thresholdS L 2) (e := e) (adj := adj) (K := K) hc.1 ht.1 (r + 1) s
      have hb1 := hB (r + 1) (by omega)
      unfold missS at hm ⊢
      rw [← hb] at hm ⊢
      refine Ev.step (fun k => by simp only [flagstonelaw41_population_misses.j0]; rfl) ?_
      cases b with
      | true =>
        refine Ev.pos rfl ?_
        have := pow_l0 (e := e) (L := L) (adj := adj) hP hc ht hT hn (r + 1) s.length 1 (by omega) (by decide) (by rw [Int.one_mul]; exact hb1)
        rw [Int.one_mul] at this
        rw [if_pos rfl]
        exact this
      | false =>
        rw [if_neg (by decide)] at hm ⊢
        refine Ev.neg (by decide) (Ev.neg (by omega) ?_)
        have := l1_is (e := e) (L := L) (adj := adj) (n := n) (s := s) (f := missS (thresholdS L 2) e c t adj K r) (by omega) hc ht hK hKl (fun s => (miss_in hc.1 ht.1 r s).1)
          (fun k _ => ⟨ih _ (by simp; omega) (pop_more hs (x1_in k)), ih _ (by simp; omega) (pop_more hs (x2_in k))⟩) K.length 0 0 (by omega) (by decide) (by
            rw [List.drop_zero, Int.zero_add]
            exact Int.le_trans hm.2 hb1)
        rw [List.drop_zero, Int.zero_add] at this
        exact this
    have lo := lowS_spec (thr := thresholdS L 2) (l := scoresOf c t adj s) (kk := (scoresOf c t adj s).length) (by omega) (by omega)
    have hi := highS_spec (thr := thresholdS L 2) (l := scoresOf c t adj s) (kk := (scoresOf c t adj s).length) (by omega) (by omega)
    refine Ev.step (fun k => by simp only [flagstonelaw41_population_misses.f]; rfl) ?_
    refine Ev.bind (All_is s (wS c t) 20 adj (by omega) (by simp [wS])) (Ev.bind (Lower_is (l := scoresOf c t adj s) L (by omega)) (Ev.both (fun h => j0 _ ?_) (fun h => Ev.bind (Upper_is (l := scoresOf c t adj s) L (by omega)) (j0 _ ?_))))
    · unfold exS
      rw [(lo.2.2 e he0 he1).mpr h]; rfl
    · unfold exS
      rw [Bool.eq_false_iff.mpr (fun q => h ((lo.2.2 e he0 he1).mp q)), Bool.false_or]
      exact Bool.eq_iff_iff.mpr (decide_eq_true_iff.trans (hi.2.2 e he0 he1).symm)
end
end Go.Proofs.Ytdclcdaoidbgbaa.PA
