/- The supermartingale inequality of a step, exactly: the sum over the arms of weight times the new wealth is at most the sum of the weights times the wealth before. No condition. -/
import Derived.Test.YthkgjkmcmkpkcaaPA6
import Derived.Test.YthkgjkmcmkpkcaaB2
namespace Go.Proofs.Ythkgjkmcmkpkcaa.Pure
open Go Go.RowKit Go.Proofs.Ythkgjkmcmkpkcaa.PA Go.Proofs.YthkgjkmcmkpkcaaW.PrintWords Go.Proofs.YthkgjkmcmkpkcaaW.PrintLast Go.Proofs.YthkgjkmcmkpkcaaW.PrintMore Go.Proofs.Ythkgjkmcmkpkcaa.M
set_option linter.unusedVariables false
set_option linter.unusedSimpArgs false

theorem and30 {x : Int} (h0 : 0 ≤ x) (h1 : x < 9223372036854775808) : Go.bits .and .i64 x 1073741823 = x % 1073741824 :=
  bits_mask .i64 63 (by decide) (fun n h0 h1 => by
    have h1 : n < 9223372036854775808 := by simpa using h1
    rw [IntKind.wrap_i64]; omega) 30 (by decide) x h0 (by simpa using h1)
theorem sumW_range {ws : List Int} {f : Nat → Int} {m : Int} (hm : 0 ≤ m) : ∀ i : Nat, (∀ j : Nat, j < i → 0 ≤ rd ws (j : Int) ∧ rd ws (j : Int) ≤ 10000) → (∀ j : Nat, j < i → 0 ≤ f j ∧ f j ≤ m) → 0 ≤ sumW ws f i ∧ sumW ws f i ≤ (i : Int) * (10000 * m)
  | 0, _, _ => by simp [sumW]
  | i + 1, h0, h => by
    have h1 := sumW_range hm i (fun j hj => h0 j (by omega)) (fun j hj => h j (by omega))
    have h2 := mul_le (h0 i (by omega)).1 (h i (by omega)).1 (h0 i (by omega)).2 (h i (by omega)).2
    simp only [sumW]
    rw [show ((i + 1 : Nat) : Int) * (10000 * m) = (i : Int) * (10000 * m) + 10000 * m by rw [show ((i + 1 : Nat) : Int) = (i : Int) + 1 by omega, Int.add_mul, Int.one_mul]]
    omega

theorem fair_l1 {x : Int} {cs ws : List Int} (h : cs.length = 0 ∧ ws.length = 0 ∨ Fit x cs ws) (x0 : 0 ≤ x) (x1 : x ≤ 2305843009213693952) : ∀ n i : Nat, cs.length - i = n → i ≤ cs.length →
    Ev (fun k => flagstonelaw42_BalanceFair.l1 k cs ws x (sumW ws (fun _ => x / 1073741824) i) (sumW ws (fun _ => x % 1073741824) i) (sumW ws (fun j => (stepS x cs ws ((j : Int) + 1)).1 / 1073741824) i) (sumW ws (fun j => (stepS x cs ws ((j : Int) + 1)).1 % 1073741824) i) (i : Int)) true := by
  have hl : cs.length = ws.length := by
    rcases h with h | h
    · omega
    · exact h.len
  have h8 : cs.length ≤ 8 := by
    rcases h with h | h
    · omega
    · exact h.most
  have hw : ∀ j : Nat, j < cs.length → 0 ≤ rd cs (j : Int) ∧ rd cs (j : Int) ≤ 512 ∧ 1 ≤ rd ws (j : Int) ∧ rd ws (j : Int) ≤ 10000 := by
    intro j hj
    rcases h with h | h
    · omega
    · exact goods_at h.good j hj (by omega)
  have hg : ∀ j : Nat, 0 ≤ (stepS x cs ws ((j : Int) + 1)).1 ∧ (stepS x cs ws ((j : Int) + 1)).1 ≤ 2305843009213693952 := fun j => stepS_range x0 x1
  have r1 := fun i (hi : i ≤ cs.length) => sumW_range (ws := ws) (f := fun _ => x / 1073741824) (m := 2147483648) (by omega) i (fun j hj => by have := hw j (by omega); omega) (fun j hj => by omega)
  have r2 := fun i (hi : i ≤ cs.length) => sumW_range (ws := ws) (f := fun _ => x % 1073741824) (m := 1073741824) (by omega) i (fun j hj => by have := hw j (by omega); omega) (fun j hj => by omega)
  have r3 := fun i (hi : i ≤ cs.length) => sumW_range (ws := ws) (f := fun j => (stepS x cs ws ((j : Int) + 1)).1 / 1073741824) (m := 2147483648) (by omega) i (fun j hj => by have := hw j (by omega); omega) (fun j hj => by have := hg j; omega)
  have r4 := fun i (hi : i ≤ cs.length) => sumW_range (ws := ws) (f := fun j => (stepS x cs ws ((j : Int) + 1)).1 % 1073741824) (m := 1073741824) (by omega) i (fun j hj => by have := hw j (by omega); omega) (fun j hj => by have := hg j; omega)
  intro n
  induction n with
  | zero =>
    intro i hn hi
    obtain rfl : i = cs.length := by omega
    have q1 := r1 cs.length (Nat.le_refl _)
    have q2 := r2 cs.length (Nat.le_refl _)
    have q3 := r3 cs.length (Nat.le_refl _)
    have q4 := r4 cs.length (Nat.le_refl _)
    have s1 := sumW_split ws (fun _ => x) 1073741824 cs.length
    have s2 := sumW_split ws (fun j => (stepS x cs ws ((j : Int) + 1)).1) 1073741824 cs.length
    have key : sumW ws (fun j => (stepS x cs ws ((j : Int) + 1)).1) cs.length ≤ sumW ws (fun _ => x) cs.length := by
      rcases h with h | h
      · rw [h.1]; simp [sumW]
      · have := step_fair h
        rw [sumW_const, hl] at *
        exact this
    generalize sumW ws (fun _ => x / 1073741824) cs.length = H at *
    generalize sumW ws (fun _ => x % 1073741824) cs.length = L at *
    generalize sumW ws (fun j => (stepS x cs ws ((j : Int) + 1)).1 / 1073741824) cs.length = T at *
    generalize sumW ws (fun j => (stepS x cs ws ((j : Int) + 1)).1 % 1073741824) cs.length = R at *
    clear r1 r2 r3 r4 hg hw
    have e1 : wrap64 (T + R / 1073741824) = T + R / 1073741824 := w64_id (by omega) (by omega)
    have e2 : wrap64 (H + L / 1073741824) = H + L / 1073741824 := w64_id (by omega) (by omega)
    refine Ev.step (f := fun _ => some true) (fun k => ?_) (Ev.now _)
    simp only [flagstonelaw42_BalanceFair.l1]
    rw [if_neg (by omega), e1, e2, and30 (by omega) (by omega), and30 (by omega) (by omega)]
    by_cases c1 : T + R / 1073741824 < H + L / 1073741824
    · rw [if_pos c1]
    · rw [if_neg c1]
      by_cases c2 : T + R / 1073741824 = H + L / 1073741824
      · rw [if_pos c2, decide_eq_true (by omega)]
      · exact absurd (by omega) c2
  | succ n ih =>
    intro i hn hi
    have hlt : i < cs.length := by omega
    have hf : Fit x cs ws := by
      rcases h with h | h
      · omega
      · exact h
    have hwi : wrap64 ((i : Int) + 1) = ((i + 1 : Nat) : Int) := by rw [w64_id (by omega) (by omega)]; omega
    have hst := hf.step hlt
    have hgi := hg i
    have hwi' := hw i hlt
    refine Ev.step (f := fun k => (balance_Step.f k x cs ws ((i : Int) + 1)).bind fun bt216 => (if (bt216.2.length : Int) = (cs.length : Int) then (if 0 ≤ (i : Int) then (if (i : Int) < (bt216.2.length : Int) then (if (rd bt216.2 (i : Int)) = (wrap64 ((rd cs (i : Int)) + 1)) then (if (i : Int) < (ws.length : Int) then (flagstonelaw42_BalanceFair.l1 k cs ws x (wrap64 (sumW ws (fun _ => x / 1073741824) i + (wrap64 ((rd ws (i : Int)) * (x / 1073741824))))) (wrap64 (sumW ws (fun _ => x % 1073741824) i + (wrap64 ((rd ws (i : Int)) * (Go.bits .and .i64 x 1073741823))))) (wrap64 (sumW ws (fun j => (stepS x cs ws ((j : Int) + 1)).1 / 1073741824) i + (wrap64 ((rd ws (i : Int)) * (bt216.1 / 1073741824))))) (wrap64 (sumW ws (fun j => (stepS x cs ws ((j : Int) + 1)).1 % 1073741824) i + (wrap64 ((rd ws (i : Int)) * (Go.bits .and .i64 bt216.1 1073741823))))) (wrap64 ((i : Int) + 1))) else (none)) else (some false)) else (none)) else (none)) else (some false))) (fun k => ?_) ?_
    · simp only [flagstonelaw42_BalanceFair.l1]
      rw [if_pos (by omega), show wrap64 ((i : Int) + 1) = (i : Int) + 1 by rw [hwi]; omega]
    · refine Ev.bind (balance_Step_is (by omega)) ?_
      have hlen : (stepS x cs ws ((i : Int) + 1)).2.length = cs.length := stepS_length _ _ _ _
      have hat : rd (stepS x cs ws ((i : Int) + 1)).2 (i : Int) = wrap64 (rd cs (i : Int) + 1) := by
        rw [hst, w64_id (by omega) (by omega)]
        simp only
        rw [rd_nat (by simpa using hlt)]
        simp
      refine Ev.pos (by omega) (Ev.pos (by omega) (Ev.pos (by omega) (Ev.pos hat (Ev.pos (by omega) ?_))))
      have p1 := r1 (i + 1) (by omega)
      have p2 := r2 (i + 1) (by omega)
      have p3 := r3 (i + 1) (by omega)
      have p4 := r4 (i + 1) (by omega)
      simp only [sumW] at p1 p2 p3 p4
      have m1 := mul_le (show 0 ≤ rd ws (i : Int) by omega) (show 0 ≤ x / 1073741824 by omega) hwi'.2.2.2 (show x / 1073741824 ≤ 2147483648 by omega)
      have m2 := mul_le (show 0 ≤ rd ws (i : Int) by omega) (show 0 ≤ x % 1073741824 by omega) hwi'.2.2.2 (show x % 1073741824 ≤ 1073741824 by omega)
      have m3 := mul_le (show 0 ≤ rd ws (i : Int) by omega) (show 0 ≤ (stepS x cs ws ((i : Int) + 1)).1 / 1073741824 by omega) hwi'.2.2.2 (show (stepS x cs ws ((i : Int) + 1)).1 / 1073741824 ≤ 2147483648 by omega)
      have m4 := mul_le (show 0 ≤ rd ws (i : Int) by omega) (show 0 ≤ (stepS x cs ws ((i : Int) + 1)).1 % 1073741824 by omega) hwi'.2.2.2 (show (stepS x cs ws ((i : Int) + 1)).1 % 1073741824 ≤ 1073741824 by omega)
      rw [and30 (x := x) (by omega) (by omega), and30 (x := (stepS x cs ws ((i : Int) + 1)).1) (by omega) (by omega)]
      have hi8 : ((i + 1 : Nat) : Int) ≤ 8 := by omega
      have f1 := w64_id (x := rd ws (i : Int) * (x / 1073741824)) (by omega) (by omega)
      have f2 := w64_id (x := rd ws (i : Int) * (x % 1073741824)) (by omega) (by omega)
      have f3 := w64_id (x := rd ws (i : Int) * ((stepS x cs ws ((i : Int) + 1)).1 / 1073741824)) (by omega) (by omega)
      have f4 := w64_id (x := rd ws (i : Int) * ((stepS x cs ws ((i : Int) + 1)).1 % 1073741824)) (by omega) (by omega)
      rw [f1, f2, f3, f4, w64_id (x := sumW ws (fun _ => x / 1073741824) i + _) (by omega) (by omega), w64_id (x := sumW ws (fun _ => x % 1073741824) i + _) (by omega) (by omega), w64_id (x := sumW ws (fun j => (stepS x cs ws ((j : Int) + 1)).1 / 1073741824) i + _) (by omega) (by omega), w64_id (x := sumW ws (fun j => (stepS x cs ws ((j : Int) + 1)).1 % 1073741824) i + _) (by omega) (by omega), hwi]
      exact ih (i + 1) (by omega) (by omega)

theorem fair_l0 (c d : List Int) (a2 a3 : Int) (h3 : 0 ≤ a3) (hc : c.length ≤ 9223372036854775807) (hd : d.length ≤ 9223372036854775807) (wc : ∀ x ∈ c, 0 ≤ x ∧ x ≤ 65535) (wd : ∀ x ∈ d, 0 ≤ x ∧ x ≤ 65535) :
    ∀ n i : Nat, 8 - i = n → i ≤ 8 → ∀ p q : List Int, p.length = i → q.length = i → goods p q = true → Ev (fun k => flagstonelaw42_BalanceFair.l0 k c d a2 a3 p q (i : Int)) true := by
  have stop : ∀ (p q : List Int) (i : Nat), p.length = i → q.length = i → i ≤ 8 → goods p q = true → Ev (fun k => flagstonelaw42_BalanceFair.j1 k c d a2 a3 p q (i : Int) false) true := by
    intro p q i hp hq h8 hg
    have h0 : 0 ≤ Int.tmod a3 62 := by rw [Int.tmod_eq_emod_of_nonneg h3]; omega
    have hx : 0 ≤ wrap64 (IntKind.u64.wrap a2 / 2) := by
      have : 0 ≤ IntKind.u64.wrap a2 / 2 ∧ IntKind.u64.wrap a2 / 2 ≤ 9223372036854775807 := by rw [u64]; omega
      rw [w64_id (by omega) (by omega)]; omega
    have hs : 0 ≤ shr .i64 (wrap64 (IntKind.u64.wrap a2 / 2)) (Int.tmod a3 62) := by unfold shr; exact Int.ediv_nonneg hx (Int.le_of_lt (two_pow_pos _))
    have x0 : 0 ≤ mn (shr .i64 (wrap64 ((IntKind.u64.wrap (a2)) / 2)) (Int.tmod a3 62)) 2305843009213693952 := by unfold mn; split <;> omega
    have x1 : mn (shr .i64 (wrap64 ((IntKind.u64.wrap (a2)) / 2)) (Int.tmod a3 62)) 2305843009213693952 ≤ 2305843009213693952 := by unfold mn; split <;> omega
    refine Ev.step (fun k => ?_) (fair_l1 (x := mn (shr .i64 (wrap64 ((IntKind.u64.wrap (a2)) / 2)) (Int.tmod a3 62)) 2305843009213693952) (cs := p) (ws := q) ?_ x0 x1 p.length 0 (by omega) (by omega))
    · simp only [flagstonelaw42_BalanceFair.j1]
      rw [if_neg (by decide), if_pos h0]
      rfl
    · by_cases hz : i = 0
      · exact .inl ⟨by omega, by omega⟩
      · exact .inr ⟨x0, x1, by omega, by omega, by omega, hg⟩
  intro n
  induction n with
  | zero =>
    intro i hn hi p q hp hq hg
    have : i = 8 := by omega
    refine Ev.step (f := fun k => if (i : Int) < (c.length : Int) then (if (i : Int) < (d.length : Int) then (flagstonelaw42_BalanceFair.j1 k c d a2 a3 p q (i : Int) (decide ((i : Int) < 8))) else (flagstonelaw42_BalanceFair.j1 k c d a2 a3 p q (i : Int) false)) else (flagstonelaw42_BalanceFair.j1 k c d a2 a3 p q (i : Int) false)) (fun k => by simp only [flagstonelaw42_BalanceFair.l0]) ?_
    rw [decide_eq_false (show ¬ (i : Int) < 8 by omega)]
    exact Ev.both (fun _ => Ev.both (fun _ => stop p q i hp hq hi hg) (fun _ => stop p q i hp hq hi hg)) (fun _ => stop p q i hp hq hi hg)
  | succ n ih =>
    intro i hn hi p q hp hq hg
    have hw : wrap64 ((i : Int) + 1) = ((i + 1 : Nat) : Int) := by rw [w64_id (by omega) (by omega)]; omega
    refine Ev.step (f := fun k => if (i : Int) < (c.length : Int) then (if (i : Int) < (d.length : Int) then (flagstonelaw42_BalanceFair.j1 k c d a2 a3 p q (i : Int) (decide ((i : Int) < 8))) else (flagstonelaw42_BalanceFair.j1 k c d a2 a3 p q (i : Int) false)) else (flagstonelaw42_BalanceFair.j1 k c d a2 a3 p q (i : Int) false)) (fun k => by simp only [flagstonelaw42_BalanceFair.l0]) ?_
    rw [decide_eq_true (show (i : Int) < 8 by omega)]
    refine Ev.both (fun h1 => Ev.both (fun h2 => ?_) (fun _ => stop p q i hp hq (by omega) hg)) (fun _ => stop p q i hp hq (by omega) hg)
    have k1 : i < c.length := by omega
    have k2 : i < d.length := by omega
    have b1 := wc _ (List.getElem_mem k1)
    have b2 := wd _ (List.getElem_mem k2)
    rw [← rd_nat k1] at b1
    rw [← rd_nat k2] at b2
    have e1 : Int.tmod (wrap64 (rd c (i : Int))) 513 = rd c (i : Int) % 513 := by rw [w64_id (by omega) (by omega), Int.tmod_eq_emod_of_nonneg (by omega)]
    have e2 : wrap64 (1 + Int.tmod (wrap64 (rd d (i : Int))) 10000) = 1 + rd d (i : Int) % 10000 := by rw [w64_id (x := rd d (i : Int)) (by omega) (by omega), Int.tmod_eq_emod_of_nonneg (by omega), w64_id (by omega) (by omega)]
    refine Ev.step (fun k => ?_) (ih (i + 1) (by omega) (by omega) (p ++ [rd c (i : Int) % 513]) (q ++ [1 + rd d (i : Int) % 10000]) (by simp; omega) (by simp; omega) ?_)
    · simp only [flagstonelaw42_BalanceFair.j1]
      rw [if_pos trivial, if_pos (by omega), if_pos h1, e1, e2]
      simp only [Option.bind_some, List.length_cons, List.length_nil]
      rw [if_pos (by omega), if_pos h2, if_pos (by omega), hw]
    · have : ∀ (p q : List Int) (u v : Int), p.length = q.length → goods p q = true → 0 ≤ u ∧ u ≤ 512 ∧ 1 ≤ v ∧ v ≤ 10000 → goods (p ++ [u]) (q ++ [v]) = true := by
        intro p
        induction p with
        | nil =>
          intro q u v hl _ hb
          cases q with
          | nil => simp [goods, hb]
          | cons y ys => simp at hl
        | cons x xs ihp =>
          intro q u v hl hgg hb
          cases q with
          | nil => simp at hl
          | cons y ys =>
            simp only [goods, Bool.and_eq_true] at hgg
            simp only [List.cons_append, goods, Bool.and_eq_true]
            exact ⟨hgg.1, ihp ys u v (by simpa using hl) hgg.2 hb⟩
      exact this p q _ _ (by omega) hg (by omega)
theorem BalanceFair : flagstonelaw42_BalanceFair.Pure := by
  intro l0 l1 a2 a3 m0 y0 w0 m1 y1 w1 w2 w3
  apply Ev.rounds
  unfold flagstonelaw42_BalanceFair.f
  have b3 := u8_of w3
  refine Ev.bind awake_is (Ev.pos rfl ?_)
  exact fair_l0 l0 l1 a2 a3 b3.1 (by omega) (by omega) (fun x hx => u16_of (w0 x hx)) (fun x hx => u16_of (w1 x hx)) 8 0 (by omega) (by omega) [] [] rfl rfl rfl
end Go.Proofs.Ythkgjkmcmkpkcaa.Pure
