/- What Class, floor and Predict of the program answer. -/
import Derived.Test.YtdmhdbebjjhopaaPA3
import Derived.Test.YtdmhdbebjjhopaaML
import Derived.Test.YtdmhdbebjjhopaaME
namespace Go.Proofs.Ytdmhdbebjjhopaa.PA
open Go Go.RowKit Go.Proofs.YtdmhdbebjjhopaaW.PrintWords Go.Proofs.YtdmhdbebjjhopaaW.PrintLast Go.Proofs.YtdmhdbebjjhopaaW.PrintMore Go.Proofs.Ytdmhdbebjjhopaa.M
set_option linter.unusedVariables false
set_option linter.unusedSimpArgs false

/-! The class: the number of bits. -/
def classS (x : Int) : Int := (score_Class.f 2 x).getD 0
theorem wrap_mx (x : Int) : 0 ≤ IntKind.u64.wrap (mx x 0) ∧ IntKind.u64.wrap (mx x 0) < 18446744073709551616 := by rw [u64]; omega
theorem class_len (x : Int) : ∃ n : Nat, classS x = n ∧ n ≤ 64 ∧ IsLen (IntKind.u64.wrap (mx x 0)) n ∧ Ev (fun k => score_Class.f k x) (classS x) := by
  obtain ⟨h0, h1⟩ := wrap_mx x
  obtain ⟨n, e, hn, hl⟩ := len64 0 _ h0 h1
  have e2 : score_Class.f 2 x = some (n : Int) := by
    unfold score_Class.f bits_Len.f
    rw [e]; rfl
  have e3 : classS x = (n : Int) := by unfold classS; rw [e2]; rfl
  exact ⟨n, e3, hn, hl, by rw [e3]; exact Ev.of (fun k => score_Class.mono _ k) e2⟩
theorem Class_is (x : Int) : Ev (fun k => score_Class.f k x) (classS x) := by
  obtain ⟨n, _, _, _, h⟩ := class_len x
  exact h
theorem class_zero {x : Int} (h : x ≤ 0) : classS x = 0 := by
  unfold classS score_Class.f
  rw [show IntKind.u64.wrap (mx x 0) = 0 by rw [u64]; unfold mx; split <;> omega]
  decide +kernel

/-! Division, rounded down. -/
def floorS (a b : Int) : Int := if Int.tmod a b < 0 then wrap64 (wrap64 (Int.tdiv a b) - 1) else wrap64 (Int.tdiv a b)
theorem floor_is {a b : Int} (hb : b ≠ 0) : score_floor.f a b = some (floorS a b) := by
  unfold score_floor.f floorS
  rw [if_neg hb]
  split <;> rfl
theorem floorS_nonneg {a b : Int} (ha : 0 ≤ a) (ha1 : a ≤ 4611686018427387904) (hb : 0 < b) : floorS a b = a / b := by
  unfold floorS
  have h1 := Int.emod_nonneg a (show b ≠ 0 by omega)
  have h2 : 0 ≤ a / b := Int.ediv_nonneg ha (by omega)
  have h3 : a / b ≤ a := Int.ediv_le_self _ ha
  rw [Int.tmod_eq_emod_of_nonneg ha, if_neg (by omega), Int.tdiv_eq_ediv_of_nonneg ha, w64_id (by omega) (by omega)]

/-! Predictions. -/
/-- How many elements there are that fit, and the sum of their values. -/
def accS (p : S34 → Bool) : List S34 → Int → Int → Int × Int
  | [], n, s => (n, s)
  | x :: l, n, s => if p x = true then accS p l (wrap64 (n + 1)) (wrap64 (s + x.f1)) else accS p l n s
def fitS (strict : Bool) (arm cls : Int) (x : S34) : Bool := decide (x.f0.f4 = arm) && (!strict || classS x.f3 == cls)
def predS (s : List S34) (i : Nat) (cls arm cap : Int) : Int :=
  if (accS (fitS true arm cls) (s.take i) 0 0).1 > 0 then floorS (accS (fitS true arm cls) (s.take i) 0 0).2 (accS (fitS true arm cls) (s.take i) 0 0).1
  else if (accS (fitS false arm cls) (s.take i) 0 0).1 > 0 then floorS (accS (fitS false arm cls) (s.take i) 0 0).2 (accS (fitS false arm cls) (s.take i) 0 0).1
  else floorS cap 2
def predictS (s : List S34) (i arm cap : Int) : Int := if 0 ≤ i ∧ i < s.length then predS s i.toNat (classS (rd_T34 s i).f3) arm cap else 0
theorem rd_T {xs : List S34} {i : Nat} (h : i < xs.length) : rd_T34 xs (i : Int) = xs[i] := by
  unfold rd_T34
  simp [h]
theorem pred_l1 {s : List S34} {i arm cap cls j : Int} {strict b0 b1 : Bool} {pre : List S34} {R : Int} (hm : pre.length ≤ 4611686018427387904)
    (hl : ∀ n sum : Int, (n, sum) = accS (fitS strict arm cls) pre 0 0 → n > 0 → R = floorS sum n)
    (hn : ¬ (accS (fitS strict arm cls) pre 0 0).1 > 0 → Ev (fun k => score_Predict.l0 k s i arm cap cls (wrap64 (j + 1)) b0 b1) R) :
    ∀ m t : Nat, pre.length - t = m → t ≤ pre.length → ∀ n sum : Int, accS (fitS strict arm cls) (pre.drop t) n sum = accS (fitS strict arm cls) pre 0 0 →
    Ev (fun k => score_Predict.l1 k s i arm cap cls strict n sum j pre (pre.length : Int) (t : Int) b0 b1) R := by
  intro m
  induction m with
  | zero =>
    intro t hmt ht n sum he
    rw [List.drop_of_length_le (by omega)] at he
    simp only [accS] at he
    refine Ev.step (fun k => by simp only [score_Predict.l1]; rfl) ?_
    refine Ev.neg (by omega) (Ev.both (fun h => ?_) (fun h => hn (by rw [← he]; exact h)))
    rw [floor_is (by omega), hl n sum he h]
    exact Ev.now _
  | succ m ih =>
    intro t hmt ht n sum he
    have hlt : t < pre.length := by omega
    have hw : wrap64 ((t : Int) + 1) = ((t + 1 : Nat) : Int) := by rw [w64_id (by omega) (by omega)]; omega
    have rt := rd_T hlt
    rw [List.drop_eq_getElem_cons hlt] at he
    generalize pre[t] = x at rt he
    have j4 : ∀ b, b = fitS strict arm cls x → ∀ z0 z1 z2 z3 z4 z5 z7 z8 z9, Ev (fun k => score_Predict.j4 k s i arm cap cls strict n sum j pre (pre.length : Int) (t : Int) b b0 b1 z0 z1 z2 z3 z4 z5 x.f1 z7 z8 z9) R := by
      intro b hb z0 z1 z2 z3 z4 z5 z7 z8 z9
      subst hb
      refine Ev.step (fun k => by simp only [score_Predict.j4]; rfl) ?_
      simp only [accS] at he
      rw [hw]
      by_cases c : fitS strict arm cls x = true
      · rw [if_pos c] at he
        exact Ev.pos c (ih (t + 1) (by omega) (by omega) _ _ he)
      · rw [if_neg c] at he
        exact Ev.neg c (ih (t + 1) (by omega) (by omega) _ _ he)
    refine Ev.step (fun k => by simp only [score_Predict.l1]; rfl) ?_
    rw [rt]
    refine Ev.pos (by omega) (Ev.pos (by omega) (Ev.pos (by omega) (Ev.both (fun ha => Ev.both (fun hs => ?_) (fun hs => ?_)) (fun ha => ?_))))
    · exact Ev.bind (Class_is _) (j4 _ (by unfold fitS; rw [decide_eq_true ha, hs]; rfl) _ _ _ _ _ _ _ _ _)
    · exact j4 _ (by unfold fitS; rw [decide_eq_true ha, Bool.eq_false_iff.mpr hs]; rfl) _ _ _ _ _ _ _ _ _
    · exact j4 _ (by unfold fitS; rw [decide_eq_false ha]; rfl) _ _ _ _ _ _ _ _ _
theorem pred_j2 {s : List S34} {arm cap cls j : Int} {strict b0 b1 : Bool} {i : Nat} {R : Int} (hm : s.length ≤ 4611686018427387904) (hi : i ≤ s.length)
    (hl : (accS (fitS strict arm cls) (s.take i) 0 0).1 > 0 → R = floorS (accS (fitS strict arm cls) (s.take i) 0 0).2 (accS (fitS strict arm cls) (s.take i) 0 0).1)
    (hn : ¬ (accS (fitS strict arm cls) (s.take i) 0 0).1 > 0 → Ev (fun k => score_Predict.l0 k s (i : Int) arm cap cls (wrap64 (j + 1)) b0 b1) R) :
    Ev (fun k => score_Predict.j2 k s (i : Int) arm cap cls strict j b0 b1) R := by
  refine Ev.step (fun k => by simp only [score_Predict.j2]; rfl) ?_
  refine Ev.pos (by omega) (Ev.pos (by omega) (Ev.bind (Ev.now _) ?_))
  rw [Int.toNat_natCast]
  exact pred_l1 (by rw [List.length_take]; omega) (fun n sum he h => by rw [← he] at hl; exact hl h) hn _ 0 rfl (by omega) 0 0 (by simp)
theorem Predict_is (s : List S34) (i arm cap : Int) (hm : s.length ≤ 4611686018427387904) : Ev (fun k => score_Predict.f k s i arm cap) (predictS s i arm cap) := by
  unfold score_Predict.f predictS
  have stop : ∀ b, b = true → Ev (fun k => score_Predict.j0 k s i arm cap b) 0 := fun b hb => by
    subst hb
    exact Ev.step (f := fun _ => some 0) (fun k => by simp only [score_Predict.j0]; rw [if_pos trivial]) (Ev.now _)
  by_cases h : 0 ≤ i ∧ i < s.length
  · rw [if_pos h]
    obtain ⟨h0, h1⟩ := h
    obtain ⟨i, rfl⟩ := Int.eq_ofNat_of_zero_le h0
    rw [Int.toNat_natCast]
    have w1 : wrap64 (0 + 1) = 1 := w64_id (by decide) (by decide)
    have w2 : wrap64 (1 + 1) = 2 := w64_id (by decide) (by decide)
    refine Ev.neg (by omega) ?_
    rw [decide_eq_false (by omega)]
    refine Ev.step (fun k => by simp only [score_Predict.j0]; rfl) ?_
    refine Ev.neg (by decide) (Ev.pos (by omega) (Ev.pos (by omega) (Ev.bind (Class_is _) ?_)))
    refine Ev.step (fun k => by simp only [score_Predict.l0]; rfl) ?_
    refine Ev.pos (by decide) (Ev.pos (by decide) (pred_j2 hm (by omega) (fun h => ?_) (fun h => ?_)))
    · unfold predS; rw [if_pos h]
    · rw [w1]
      refine Ev.step (fun k => by simp only [score_Predict.l0]; rfl) ?_
      refine Ev.pos (by decide) (Ev.neg (by decide) (Ev.pos (by decide) (pred_j2 hm (by omega) (fun h2 => ?_) (fun h2 => ?_))))
      · unfold predS; rw [if_neg h, if_pos h2]
      · rw [w2]
        refine Ev.step (fun k => by simp only [score_Predict.l0]; rfl) ?_
        refine Ev.neg (by decide) ?_
        rw [floor_is (by decide)]
        unfold predS
        rw [if_neg h, if_neg h2]
        exact Ev.now _
  · rw [if_neg h]
    refine Ev.both (fun _ => stop _ rfl) (fun h2 => stop _ (decide_eq_true (by omega)))
end Go.Proofs.Ytdmhdbebjjhopaa.PA
