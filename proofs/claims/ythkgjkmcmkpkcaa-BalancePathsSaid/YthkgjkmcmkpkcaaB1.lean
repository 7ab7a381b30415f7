/- What one step of the sample-ratio test answers, of the program and of the document's text: one plain function. -/
import Derived.Test.YthkgjkmcmkpkcaaPA3
import Derived.Test.YthkgjkmcmkpkcaaPA4
import Derived.Test.YthkgjkmcmkpkcaaM3
namespace Go.Proofs.Ythkgjkmcmkpkcaa.PA
open Go Go.RowKit Go.Proofs.YthkgjkmcmkpkcaaW.PrintWords Go.Proofs.YthkgjkmcmkpkcaaW.PrintLast Go.Proofs.YthkgjkmcmkpkcaaW.PrintMore Go.Proofs.Ythkgjkmcmkpkcaa.M
set_option linter.unusedVariables false
set_option linter.unusedSimpArgs false

theorem rd_nat {xs : List Int} {i : Nat} (h : i < xs.length) : rd xs (i : Int) = xs[i] := by
  unfold rd
  simp [h]
/-- Counts and weights that are expected, element by element. -/
def goods : List Int → List Int → Bool
  | c :: cs, w :: ws => decide (0 ≤ c ∧ c ≤ 512 ∧ 1 ≤ w ∧ w ≤ 10000) && goods cs ws
  | _, _ => true
theorem goods_drop {cs ws : List Int} {i : Nat} (h1 : i < cs.length) (h2 : i < ws.length) : goods (cs.drop i) (ws.drop i) = (decide (0 ≤ cs[i] ∧ cs[i] ≤ 512 ∧ 1 ≤ ws[i] ∧ ws[i] ≤ 10000) && goods (cs.drop (i + 1)) (ws.drop (i + 1))) := by
  rw [List.drop_eq_getElem_cons h1, List.drop_eq_getElem_cons h2]; rfl
theorem goods_at : ∀ {cs ws : List Int}, goods cs ws = true → ∀ i : Nat, i < cs.length → i < ws.length → 0 ≤ rd cs (i : Int) ∧ rd cs (i : Int) ≤ 512 ∧ 1 ≤ rd ws (i : Int) ∧ rd ws (i : Int) ≤ 10000
  | c :: cs, w :: ws, h, 0, _, _ => by
    simp only [goods, Bool.and_eq_true, decide_eq_true_eq] at h
    simpa [rd] using h.1
  | c :: cs, w :: ws, h, i + 1, h1, h2 => by
    simp only [goods, Bool.and_eq_true] at h
    have := goods_at h.2 i (by simpa using h1) (by simpa using h2)
    simpa [rd] using this
  | [], _, _, i, h1, _ => by simp at h1
  | _ :: _, [], _, i, _, h2 => by simp at h2

/-- Is a step possible? -/
def okS (w : Int) (cs ws : List Int) (arm : Int) : Bool :=
  decide (0 ≤ w ∧ w ≤ 2305843009213693952 ∧ cs.length = ws.length ∧ 1 ≤ cs.length ∧ cs.length ≤ 8 ∧ 1 ≤ arm ∧ arm ≤ cs.length) && goods cs ws
theorem okS_iff {w : Int} {cs ws : List Int} {arm : Int} : okS w cs ws arm = true ↔ (0 ≤ w ∧ w ≤ 2305843009213693952 ∧ cs.length = ws.length ∧ 1 ≤ cs.length ∧ cs.length ≤ 8 ∧ 1 ≤ arm ∧ arm ≤ cs.length) ∧ goods cs ws = true := by
  unfold okS; simp only [Bool.and_eq_true, decide_eq_true_eq]
/-- Sums of the first elements. -/
def pre (xs : List Int) : Nat → Int
  | 0 => 0
  | i + 1 => pre xs i + rd xs (i : Int)
theorem pre_counts {cs ws : List Int} (h : goods cs ws = true) (hl : cs.length = ws.length) : ∀ i : Nat, i ≤ cs.length → 0 ≤ pre cs i ∧ pre cs i ≤ 512 * i ∧ (i : Int) ≤ pre ws i ∧ pre ws i ≤ 10000 * i
  | 0, _ => by simp [pre]
  | i + 1, hi => by
    have h1 := pre_counts h hl i (by omega)
    have h2 := goods_at h i (by omega) (by omega)
    simp only [pre]
    omega
/-- w num / den, at most MaxFixed. -/
def growQ (w num den : Int) : Int := if w * num / den ≤ 2305843009213693952 then w * num / den else 2305843009213693952
def stepS (w : Int) (cs ws : List Int) (arm : Int) : Int × List Int :=
  if okS w cs ws arm = true then (growQ w ((rd cs (arm - 1) + 1) * pre ws ws.length) ((pre cs cs.length + cs.length) * rd ws (arm - 1)), cs.set (arm - 1).toNat (rd cs (arm - 1) + 1)) else (w, cs)

theorem clone_is {l : List Int} (h : l.length < 17592186044416) : slices_Clone_int_int.f l = some l := by
  unfold slices_Clone_int_int.f
  simp only [Option.bind_some, List.length_nil, Nat.zero_add, List.nil_append]
  rw [if_pos h]

section
variable {cs ws : List Int}
theorem valid_from (hl : cs.length = ws.length) (h8 : cs.length ≤ 8) : ∀ n i, cs.length - i = n → i ≤ cs.length → Ev (fun k => balance_valid.l0 k ws cs (cs.length : Int) (i : Int)) (goods (cs.drop i) (ws.drop i)) := by
  intro n
  induction n with
  | zero =>
    intro i hn hi
    rw [List.drop_of_length_le (by omega)]
    refine Ev.step (f := fun _ => some true) (fun k => ?_) (Ev.now _)
    simp only [balance_valid.l0]
    rw [if_neg (by omega)]
  | succ n ih =>
    intro i hn hi
    have h1 : i < cs.length := by omega
    have h2 : i < ws.length := by omega
    have hw : wrap64 ((i : Int) + 1) = ((i + 1 : Nat) : Int) := by rw [w64_id (by omega) (by omega)]; omega
    rw [goods_drop h1 h2]
    have bad : Ev (fun k => balance_valid.j2 k ws cs (cs.length : Int) (i : Int) true) false :=
      Ev.step (f := fun _ => some false) (fun k => by simp only [balance_valid.j2]; rw [if_pos (by trivial)]) (Ev.now _)
    have good : Ev (fun k => balance_valid.j2 k ws cs (cs.length : Int) (i : Int) false) (goods (cs.drop (i + 1)) (ws.drop (i + 1))) :=
      Ev.step (fun k => by simp only [balance_valid.j2]; rw [if_neg (by decide), hw]) (ih (i + 1) (by omega) (by omega))
    refine Ev.step (f := fun k => if (rd cs (i : Int)) < 0 then (balance_valid.j2 k ws cs (cs.length : Int) (i : Int) true) else (if (rd cs (i : Int)) > 512 then (balance_valid.j2 k ws cs (cs.length : Int) (i : Int) true) else (if (i : Int) < (ws.length : Int) then (if (rd ws (i : Int)) < 1 then (balance_valid.j2 k ws cs (cs.length : Int) (i : Int) true) else (balance_valid.j2 k ws cs (cs.length : Int) (i : Int) (decide ((rd ws (i : Int)) > 10000)))) else (none)))) (fun k => ?_) ?_
    · simp only [balance_valid.l0]
      rw [if_pos (by omega), if_pos (by omega), if_pos (by omega)]
    · rw [rd_nat h1, rd_nat h2]
      by_cases g : 0 ≤ cs[i] ∧ cs[i] ≤ 512 ∧ 1 ≤ ws[i] ∧ ws[i] ≤ 10000
      · rw [decide_eq_true g, Bool.true_and]
        refine Ev.neg (by omega) (Ev.neg (by omega) (Ev.pos (by omega) (Ev.neg (by omega) ?_)))
        rw [decide_eq_false (show ¬ ws[i] > 10000 by omega)]
        exact good
      · rw [decide_eq_false g, Bool.false_and]
        refine Ev.both (fun _ => bad) (fun c1 => Ev.both (fun _ => bad) (fun c2 => Ev.pos (by omega) (Ev.both (fun _ => bad) (fun c3 => ?_))))
        rw [decide_eq_true (show ws[i] > 10000 by omega)]
        exact bad
theorem expected_from (hl : cs.length = ws.length) (h8 : cs.length ≤ 8) : ∀ n i, cs.length - i = n → i ≤ cs.length → Ev (fun k => flagstoneref42_expected.l0 k cs ws (i : Int)) (goods (cs.drop i) (ws.drop i)) := by
  intro n
  induction n with
  | zero =>
    intro i hn hi
    rw [List.drop_of_length_le (by omega)]
    refine Ev.step (f := fun _ => some true) (fun k => ?_) (Ev.now _)
    simp only [flagstoneref42_expected.l0]
    rw [if_neg (by omega)]
  | succ n ih =>
    intro i hn hi
    have h1 : i < cs.length := by omega
    have h2 : i < ws.length := by omega
    have hw : wrap64 ((i : Int) + 1) = ((i + 1 : Nat) : Int) := by rw [w64_id (by omega) (by omega)]; omega
    rw [goods_drop h1 h2]
    have bad : Ev (fun k => flagstoneref42_expected.j2 k cs ws (i : Int) true) false :=
      Ev.step (f := fun _ => some false) (fun k => by simp only [flagstoneref42_expected.j2]; rw [if_pos (by trivial)]) (Ev.now _)
    have good : Ev (fun k => flagstoneref42_expected.j2 k cs ws (i : Int) false) (goods (cs.drop (i + 1)) (ws.drop (i + 1))) :=
      Ev.step (fun k => by simp only [flagstoneref42_expected.j2]; rw [if_neg (by decide), hw]) (ih (i + 1) (by omega) (by omega))
    refine Ev.step (f := fun k => if (rd cs (i : Int)) < 0 then (flagstoneref42_expected.j2 k cs ws (i : Int) true) else (if (rd cs (i : Int)) > 512 then (flagstoneref42_expected.j2 k cs ws (i : Int) true) else (if (i : Int) < (ws.length : Int) then (if (rd ws (i : Int)) < 1 then (flagstoneref42_expected.j2 k cs ws (i : Int) true) else (flagstoneref42_expected.j2 k cs ws (i : Int) (decide ((rd ws (i : Int)) > 10000)))) else (none)))) (fun k => ?_) ?_
    · simp only [flagstoneref42_expected.l0]
      rw [if_pos (by omega), if_pos (by omega)]
    · rw [rd_nat h1, rd_nat h2]
      by_cases g : 0 ≤ cs[i] ∧ cs[i] ≤ 512 ∧ 1 ≤ ws[i] ∧ ws[i] ≤ 10000
      · rw [decide_eq_true g, Bool.true_and]
        refine Ev.neg (by omega) (Ev.neg (by omega) (Ev.pos (by omega) (Ev.neg (by omega) ?_)))
        rw [decide_eq_false (show ¬ ws[i] > 10000 by omega)]
        exact good
      · rw [decide_eq_false g, Bool.false_and]
        refine Ev.both (fun _ => bad) (fun c1 => Ev.both (fun _ => bad) (fun c2 => Ev.pos (by omega) (Ev.both (fun _ => bad) (fun c3 => ?_))))
        rw [decide_eq_true (show ws[i] > 10000 by omega)]
        exact bad
end
theorem balance_valid_is (w : Int) (cs ws : List Int) (arm : Int) : Ev (fun k => balance_valid.f k w cs ws arm) (okS w cs ws arm) := by
  have bad : Ev (fun k => balance_valid.j0 k cs ws true) false := Ev.step (f := fun _ => some false) (fun k => by simp only [balance_valid.j0]; rw [if_pos (by trivial)]) (Ev.now _)
  unfold balance_valid.f okS
  by_cases h : 0 ≤ w ∧ w ≤ 2305843009213693952 ∧ cs.length = ws.length ∧ 1 ≤ cs.length ∧ cs.length ≤ 8 ∧ 1 ≤ arm ∧ arm ≤ cs.length
  · rw [decide_eq_true h, Bool.true_and]
    refine Ev.neg (by omega) (Ev.neg (by omega) (Ev.pos (by omega) (Ev.neg (by omega) (Ev.neg (by omega) (Ev.neg (by omega) ?_)))))
    rw [decide_eq_false (show ¬ arm > (cs.length : Int) by omega)]
    refine Ev.step (fun k => ?_) (valid_from (by omega) (by omega) cs.length 0 (by omega) (by omega))
    simp only [balance_valid.j0]
    rw [if_neg (by decide)]
    rfl
  · rw [decide_eq_false h, Bool.false_and]
    refine Ev.both (fun _ => bad) (fun h1 => Ev.both (fun _ => bad) (fun h2 => Ev.both (fun h3 => Ev.both (fun _ => bad) (fun h4 => Ev.both (fun _ => bad) (fun h5 => Ev.both (fun _ => bad) (fun h6 => ?_)))) (fun _ => bad)))
    rw [decide_eq_true (show arm > (cs.length : Int) by omega)]
    exact bad
theorem flagstoneref42_expected_is (w : Int) (cs ws : List Int) (arm : Int) : Ev (fun k => flagstoneref42_expected.f k w cs ws arm) (okS w cs ws arm) := by
  have bad : Ev (fun k => flagstoneref42_expected.j0 k cs ws true) false := Ev.step (f := fun _ => some false) (fun k => by simp only [flagstoneref42_expected.j0]; rw [if_pos (by trivial)]) (Ev.now _)
  unfold flagstoneref42_expected.f okS
  by_cases h : 0 ≤ w ∧ w ≤ 2305843009213693952 ∧ cs.length = ws.length ∧ 1 ≤ cs.length ∧ cs.length ≤ 8 ∧ 1 ≤ arm ∧ arm ≤ cs.length
  · rw [decide_eq_true h, Bool.true_and]
    refine Ev.neg (by omega) (Ev.neg (by omega) (Ev.pos (by omega) (Ev.neg (by omega) (Ev.neg (by omega) (Ev.neg (by omega) ?_)))))
    rw [decide_eq_false (show ¬ arm > (cs.length : Int) by omega)]
    refine Ev.step (fun k => ?_) (expected_from (by omega) (by omega) cs.length 0 (by omega) (by omega))
    simp only [flagstoneref42_expected.j0]
    rw [if_neg (by decide)]
    rfl
  · rw [decide_eq_false h, Bool.false_and]
    refine Ev.both (fun _ => bad) (fun h1 => Ev.both (fun _ => bad) (fun h2 => Ev.both (fun h3 => Ev.both (fun _ => bad) (fun h4 => Ev.both (fun _ => bad) (fun h5 => Ev.both (fun _ => bad) (fun h6 => ?_)))) (fun _ => bad)))
    rw [decide_eq_true (show arm > (cs.length : Int) by omega)]
    exact bad

/-- The numbers of a step are small. -/
theorem step_bounds {w : Int} {cs ws : List Int} {arm : Int} (h : okS w cs ws arm = true) :
    ∃ j : Nat, arm = (j : Int) + 1 ∧ j < cs.length ∧ cs.length = ws.length ∧ cs.length ≤ 8 ∧ 0 ≤ w ∧ w ≤ 2305843009213693952 ∧ goods cs ws = true ∧ 0 ≤ rd cs (j : Int) ∧ rd cs (j : Int) ≤ 512 ∧ 1 ≤ rd ws (j : Int) ∧ rd ws (j : Int) ≤ 10000 ∧
    0 ≤ pre cs cs.length ∧ pre cs cs.length ≤ 4096 ∧ 1 ≤ pre ws cs.length ∧ pre ws cs.length ≤ 80000 ∧
    1 ≤ (rd cs (j : Int) + 1) * pre ws cs.length ∧ (rd cs (j : Int) + 1) * pre ws cs.length ≤ 41040000 ∧ 1 ≤ (pre cs cs.length + cs.length) * rd ws (j : Int) ∧ (pre cs cs.length + cs.length) * rd ws (j : Int) ≤ 41040000 := by
  obtain ⟨⟨h1, h2, h3, h4, h5, h6, h7⟩, hg⟩ := okS_iff.mp h
  refine ⟨(arm - 1).toNat, by omega, by omega, h3, h5, h1, h2, hg, ?_⟩
  have e : ((arm - 1).toNat : Int) = arm - 1 := by omega
  have g := goods_at hg (arm - 1).toNat (by omega) (by omega)
  have p := pre_counts hg h3 cs.length (Nat.le_refl _)
  generalize rd cs ((arm - 1).toNat : Int) = c at *
  generalize rd ws ((arm - 1).toNat : Int) = v at *
  have m1 := Int.mul_le_mul (show c + 1 ≤ 513 by omega) (show pre ws cs.length ≤ 80000 by omega) (by omega) (by omega)
  have m2 := Int.mul_le_mul (show pre cs cs.length + (cs.length : Int) ≤ 4104 by omega) (show v ≤ 10000 by omega) (by omega) (by omega)
  have m3 := Int.mul_le_mul (show (1 : Int) ≤ c + 1 by omega) (show (1 : Int) ≤ pre ws cs.length by omega) (by omega) (by omega)
  have m4 := Int.mul_le_mul (show (1 : Int) ≤ pre cs cs.length + (cs.length : Int) by omega) (show (1 : Int) ≤ v by omega) (by omega) (by omega)
  omega

theorem balance_Step_loop {w : Int} {cs ws : List Int} {arm : Int} {R : Int × List Int} (hg : goods cs ws = true) (hl : cs.length = ws.length) (h8 : cs.length ≤ 8)
    (last : Ev (fun k => balance_Step.l0 k w cs ws arm cs (pre cs cs.length) (pre ws cs.length) cs (cs.length : Int) (cs.length : Int)) R) :
    ∀ n i, cs.length - i = n → i ≤ cs.length → Ev (fun k => balance_Step.l0 k w cs ws arm cs (pre cs i) (pre ws i) cs (cs.length : Int) (i : Int)) R := by
  intro n
  induction n with
  | zero =>
    intro i hn hi
    obtain rfl : i = cs.length := by omega
    exact last
  | succ n ih =>
    intro i hn hi
    have hwi : wrap64 ((i : Int) + 1) = ((i + 1 : Nat) : Int) := by rw [w64_id (by omega) (by omega)]; omega
    have p := pre_counts hg hl i (by omega)
    have g := goods_at hg i (by omega) (by omega)
    have f1 : wrap64 (pre cs i + rd cs (i : Int)) = pre cs (i + 1) := w64_id (by omega) (by omega)
    have f2 : wrap64 (pre ws i + rd ws (i : Int)) = pre ws (i + 1) := w64_id (by omega) (by omega)
    refine Ev.step (fun k => ?_) (ih (i + 1) (by omega) (by omega))
    simp only [balance_Step.l0]
    rw [if_pos (by omega), if_pos (by omega), if_pos (by omega), if_pos (by omega), f1, f2, hwi]
theorem flagstoneref42_Step_loop {w : Int} {cs ws : List Int} {arm : Int} {R : Int × List Int} (hg : goods cs ws = true) (hl : cs.length = ws.length) (h8 : cs.length ≤ 8)
    (last : Ev (fun k => flagstoneref42_Step.l0 k w cs ws arm cs (pre cs cs.length) (pre ws cs.length) (cs.length : Int)) R) :
    ∀ n i, cs.length - i = n → i ≤ cs.length → Ev (fun k => flagstoneref42_Step.l0 k w cs ws arm cs (pre cs i) (pre ws i) (i : Int)) R := by
  intro n
  induction n with
  | zero =>
    intro i hn hi
    obtain rfl : i = cs.length := by omega
    exact last
  | succ n ih =>
    intro i hn hi
    have hwi : wrap64 ((i : Int) + 1) = ((i + 1 : Nat) : Int) := by rw [w64_id (by omega) (by omega)]; omega
    have p := pre_counts hg hl i (by omega)
    have g := goods_at hg i (by omega) (by omega)
    have f1 : wrap64 (pre cs i + rd cs (i : Int)) = pre cs (i + 1) := w64_id (by omega) (by omega)
    have f2 : wrap64 (pre ws i + rd ws (i : Int)) = pre ws (i + 1) := w64_id (by omega) (by omega)
    refine Ev.step (fun k => ?_) (ih (i + 1) (by omega) (by omega))
    simp only [flagstoneref42_Step.l0]
    rw [if_pos (by omega), if_pos (by omega), if_pos (by omega), f1, f2, hwi]

theorem balance_Step_is {w : Int} {cs ws : List Int} {arm : Int} (hc : cs.length < 17592186044416) : Ev (fun k => balance_Step.f k w cs ws arm) (stepS w cs ws arm) := by
  unfold balance_Step.f
  rw [clone_is hc]
  simp only [Option.bind_some]
  refine Ev.bind (balance_valid_is w cs ws arm) ?_
  unfold stepS
  by_cases h : okS w cs ws arm = true
  · rw [if_pos h]
    refine Ev.pos h ?_
    obtain ⟨j, rfl, hj, hl, h8, w0, w1, hg, c0, c1, v0, v1, n0, n1, s0, s1, a0, a1, d0, d1⟩ := step_bounds h
    have hj1 : (j : Int) + 1 - 1 = (j : Int) := by omega
    have hwj : wrap64 ((j : Int) + 1 - 1) = (j : Int) := by rw [hj1]; exact w64_id (by omega) (by omega)
    rw [hj1, show ws.length = cs.length from hl.symm, show ((j : Int)).toNat = j from by omega]
    have last : Ev (fun k => balance_Step.l0 k w cs ws ((j : Int) + 1) cs (pre cs cs.length) (pre ws cs.length) cs (cs.length : Int) (cs.length : Int)) (growQ w ((rd cs (j : Int) + 1) * pre ws cs.length) ((pre cs cs.length + cs.length) * rd ws (j : Int)), cs.set j (rd cs (j : Int) + 1)) := by
      have e1 : wrap64 (rd cs (j : Int) + 1) = rd cs (j : Int) + 1 := w64_id (by omega) (by omega)
      have e2 : wrap64 ((rd cs (j : Int) + 1) * pre ws cs.length) = (rd cs (j : Int) + 1) * pre ws cs.length := w64_id (by omega) (by omega)
      have e3 : wrap64 (pre cs cs.length + (cs.length : Int)) = pre cs cs.length + (cs.length : Int) := w64_id (by omega) (by omega)
      have e4 : wrap64 ((pre cs cs.length + (cs.length : Int)) * rd ws (j : Int)) = (pre cs cs.length + (cs.length : Int)) * rd ws (j : Int) := w64_id (by omega) (by omega)
      generalize ha : (rd cs (j : Int) + 1) * pre ws cs.length = a at *
      generalize hd : (pre cs cs.length + (cs.length : Int)) * rd ws (j : Int) = d at *
      have hp : 0 ≤ w * a := Int.mul_nonneg w0 (by omega)
      refine Ev.step (f := fun k => if w * a / 18446744073709551616 ≥ d then some (2305843009213693952, cs.set j (rd cs (j : Int) + 1)) else ((bits_Div64.f k (w * a / 18446744073709551616) (w * a % 18446744073709551616) d).bind fun bt124 => (some (wrap64 (mn bt124.1 2305843009213693952), cs.set j (rd cs (j : Int) + 1))))) (fun k => ?_) ?_
      · simp only [balance_Step.l0]
        rw [if_neg (by omega), hwj, if_pos (by omega), if_pos (by omega), if_pos (by omega), e1, ha, e2, e3, hd, e4, u64_id w0 (by omega), u64_id (x := a) (by omega) (by omega), u64_id (x := d) (by omega) (by omega), mul64 w0 (by omega) (by omega) (by omega)]
        simp only [Option.bind_some]
        rw [if_pos (by omega), show ((j : Int)).toNat = j from by omega]
      · unfold growQ
        by_cases c : w * a / 18446744073709551616 ≥ d
        · refine Ev.pos c ?_
          have : 18446744073709551616 ≤ w * a / d := by
            apply Int.le_ediv_of_mul_le (by omega)
            omega
          rw [if_neg (by omega)]
          exact Ev.now _
        · refine Ev.neg c ?_
          obtain ⟨z, hz⟩ := div64 (hi := w * a / 18446744073709551616) (lo := w * a % 18446744073709551616) (y := d) (by omega) (by omega) (by omega) (by omega) (by omega)
          rw [show 18446744073709551616 * (w * a / 18446744073709551616) + w * a % 18446744073709551616 = w * a by omega] at hz
          refine Ev.bind hz ?_
          have hq : 0 ≤ w * a / d := Int.ediv_nonneg hp (by omega)
          have : wrap64 (mn (w * a / d) 2305843009213693952) = if w * a / d ≤ 2305843009213693952 then w * a / d else 2305843009213693952 := by
            unfold mn
            by_cases hh : w * a / d ≤ 2305843009213693952
            · rw [if_neg (by omega), if_pos hh]; exact w64_id (by omega) (by omega)
            · rw [if_pos (by omega), if_neg hh]; exact w64_id (by omega) (by omega)
          simp only [this]
          exact Ev.now _
    exact balance_Step_loop hg hl h8 last cs.length 0 (by omega) (by omega)
  · rw [if_neg h]
    exact Ev.neg h (Ev.now _)

theorem flagstoneref42_Step_is {w : Int} {cs ws : List Int} {arm : Int} (hc : cs.length < 17592186044416) : Ev (fun k => flagstoneref42_Step.f k w cs ws arm) (stepS w cs ws arm) := by
  unfold flagstoneref42_Step.f
  simp only [Option.bind_some, List.length_nil, Nat.zero_add, List.nil_append]
  refine Ev.pos hc ?_
  refine Ev.bind (flagstoneref42_expected_is w cs ws arm) ?_
  unfold stepS
  by_cases h : okS w cs ws arm = true
  · rw [if_pos h]
    refine Ev.pos h ?_
    obtain ⟨j, rfl, hj, hl, h8, w0, w1, hg, c0, c1, v0, v1, n0, n1, s0, s1, a0, a1, d0, d1⟩ := step_bounds h
    have hj1 : (j : Int) + 1 - 1 = (j : Int) := by omega
    have hwj : wrap64 ((j : Int) + 1 - 1) = (j : Int) := by rw [hj1]; exact w64_id (by omega) (by omega)
    rw [hj1, show ws.length = cs.length from hl.symm, show ((j : Int)).toNat = j from by omega]
    have last : Ev (fun k => flagstoneref42_Step.l0 k w cs ws ((j : Int) + 1) cs (pre cs cs.length) (pre ws cs.length) (cs.length : Int)) (growQ w ((rd cs (j : Int) + 1) * pre ws cs.length) ((pre cs cs.length + cs.length) * rd ws (j : Int)), cs.set j (rd cs (j : Int) + 1)) := by
      have e1 : wrap64 (rd cs (j : Int) + 1) = rd cs (j : Int) + 1 := w64_id (by omega) (by omega)
      have e2 : wrap64 ((rd cs (j : Int) + 1) * pre ws cs.length) = (rd cs (j : Int) + 1) * pre ws cs.length := w64_id (by omega) (by omega)
      have e3 : wrap64 (pre cs cs.length + (cs.length : Int)) = pre cs cs.length + (cs.length : Int) := w64_id (by omega) (by omega)
      have e4 : wrap64 ((pre cs cs.length + (cs.length : Int)) * rd ws (j : Int)) = (pre cs cs.length + (cs.length : Int)) * rd ws (j : Int) := w64_id (by omega) (by omega)
      refine Ev.step (f := fun k => (flagstoneref40_Grow.f k w ((rd cs (j : Int) + 1) * pre ws cs.length) ((pre cs cs.length + (cs.length : Int)) * rd ws (j : Int))).bind fun t165 => (some (t165, cs.set j (rd cs (j : Int) + 1)))) (fun k => ?_) ?_
      · simp only [flagstoneref42_Step.l0]
        rw [if_neg (by omega), hwj, if_pos (by omega), if_pos (by omega), if_pos (by omega), if_pos (by omega), e1, e2, e3, e4, show ((j : Int)).toNat = j from by omega]
      · generalize (rd cs (j : Int) + 1) * pre ws cs.length = a at *
        generalize (pre cs cs.length + (cs.length : Int)) * rd ws (j : Int) = d at *
        refine Ev.bind (flagstoneref40_Grow_is (by omega)) ?_
        have : growS w a d = growQ w a d := by unfold growS growQ; rw [if_neg (by omega)]
        rw [this]
        exact Ev.now _
    exact flagstoneref42_Step_loop hg hl h8 last cs.length 0 (by omega) (by omega)
  · rw [if_neg h]
    exact Ev.neg h (Ev.now _)
theorem stepS_length (w : Int) (cs ws : List Int) (arm : Int) : (stepS w cs ws arm).2.length = cs.length := by
  unfold stepS
  by_cases h : okS w cs ws arm = true
  · rw [if_pos h]; simp
  · rw [if_neg h]
theorem stepS_range {w : Int} {cs ws : List Int} {arm : Int} (h0 : 0 ≤ w) (h1 : w ≤ 2305843009213693952) : 0 ≤ (stepS w cs ws arm).1 ∧ (stepS w cs ws arm).1 ≤ 2305843009213693952 := by
  unfold stepS
  by_cases h : okS w cs ws arm = true
  · rw [if_pos h]
    obtain ⟨j, rfl, hj, hl, h8, w0, w1, hg, c0, c1, v0, v1, n0, n1, s0, s1, a0, a1, d0, d1⟩ := step_bounds h
    rw [show (j : Int) + 1 - 1 = (j : Int) by omega, show ws.length = cs.length from hl.symm]
    generalize (rd cs (j : Int) + 1) * pre ws cs.length = a at *
    generalize (pre cs cs.length + (cs.length : Int)) * rd ws (j : Int) = d at *
    have hq : 0 ≤ w * a / d := Int.ediv_nonneg (Int.mul_nonneg w0 (by omega)) (by omega)
    unfold growQ
    by_cases c : w * a / d ≤ 2305843009213693952
    · rw [if_pos c]; exact ⟨hq, c⟩
    · rw [if_neg c]; exact ⟨by omega, by omega⟩
  · rw [if_neg h]; exact ⟨h0, h1⟩

theorem awake_is : Ev (fun k => flagstonelaw42_awake.f k) true := by
  unfold flagstonelaw42_awake.f
  refine Ev.bind (balance_Step_is (by decide)) ?_
  have h1 : stepS 4294967296 [0, 0] [1, 1] 1 = (4294967296, [1, 0]) := by decide +kernel
  rw [h1]
  refine Ev.bind (balance_Step_is (by decide)) ?_
  have h2 : stepS 4294967296 [1, 0] [1, 1] 1 = (5726623061, [2, 0]) := by decide +kernel
  simp only [h2]
  refine Ev.pos trivial (Ev.pos trivial (Ev.pos (by decide) (Ev.pos (by decide) ?_)))
  exact Ev.now _
end Go.Proofs.Ythkgjkmcmkpkcaa.PA
