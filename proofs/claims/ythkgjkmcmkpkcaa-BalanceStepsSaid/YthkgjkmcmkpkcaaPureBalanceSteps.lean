/- Step of the sample-ratio test equals that of the document's text, for any arguments within the statement's own guards (lists of at most 20 elements) and for those that are expected. No condition beyond these guards. -/
import Derived.Test.YthkgjkmcmkpkcaaPA5
import Derived.Test.YthkgjkmcmkpkcaaB1
import Derived.Test.YthkgjkmcmkpkcaaM6
namespace Go.Proofs.Ythkgjkmcmkpkcaa.Pure
open Go Go.RowKit Go.Proofs.Ythkgjkmcmkpkcaa.PA Go.Proofs.YthkgjkmcmkpkcaaW.PrintWords Go.Proofs.YthkgjkmcmkpkcaaW.PrintLast Go.Proofs.YthkgjkmcmkpkcaaW.PrintMore Go.Proofs.Ythkgjkmcmkpkcaa.M
set_option linter.unusedVariables false
set_option linter.unusedSimpArgs false

theorem steps_l1 (p q : List Int) (v : Int) (hp : p.length ≤ 20) : ∀ n i : Nat, p.length + 2 - i = n → i ≤ p.length + 2 → Ev (fun k => flagstonelaw42_BalanceSteps.l1 k p q v (i : Int)) true := by
  have hw1 : wrap64 ((p.length : Int) + 1) = (p.length : Int) + 1 := w64_id (by omega) (by omega)
  intro n
  induction n with
  | zero =>
    intro i hn hi
    refine Ev.step (f := fun _ => some true) (fun k => ?_) (Ev.now _)
    simp only [flagstonelaw42_BalanceSteps.l1]
    rw [hw1, if_neg (by omega)]
  | succ n ih =>
    intro i hn hi
    have hw : wrap64 ((i : Int) + 1) = ((i + 1 : Nat) : Int) := by rw [w64_id (by omega) (by omega)]; omega
    refine Ev.step (f := fun k => (balance_Step.f k v p q (i : Int)).bind fun bt192 => ((flagstoneref42_Step.f k v p q (i : Int)).bind fun bt196 => (if bt192.1 = bt196.1 then ((flagstoneref30_SameInts.f k bt192.2 bt196.2).bind fun t200 => (if t200 = true then (flagstonelaw42_BalanceSteps.l1 k p q v ((i + 1 : Nat) : Int)) else (some false))) else (some false)))) (fun k => ?_) ?_
    · simp only [flagstonelaw42_BalanceSteps.l1]
      rw [hw1, if_pos (by omega), hw]
    · refine Ev.bind (balance_Step_is (by omega)) (Ev.bind (flagstoneref42_Step_is (by omega)) (Ev.pos rfl (Ev.bind (same_self _ ?_) (Ev.pos rfl (ih (i + 1) (by omega) (by omega))))))
      rw [stepS_length]; omega
theorem steps_l0 (a0 : Int) (c d : List Int) (a6 : Int) (h6 : 0 ≤ a6) (hc : c.length ≤ 9223372036854775807) (hd : d.length ≤ 9223372036854775807) : ∀ n i : Nat, 9 - i = n → i ≤ 9 → ∀ p q : List Int, p.length = i → q.length = i → Ev (fun k => flagstonelaw42_BalanceSteps.l0 k a0 c d a6 p q (i : Int)) true := by
  have stop : ∀ (p q : List Int) (i : Nat), p.length ≤ 20 → Ev (fun k => flagstonelaw42_BalanceSteps.j3 k a0 c d a6 p q (i : Int) false) true := by
    intro p q i hp
    have h0 : 0 ≤ Int.tmod a6 62 := by rw [Int.tmod_eq_emod_of_nonneg h6]; omega
    refine Ev.step (fun k => ?_) (steps_l1 p q (mn (shr .i64 (wrap64 ((IntKind.u64.wrap (a0)) / 2)) (Int.tmod a6 62)) (wrap64 (2305843009213693952 + (Int.tmod (wrap64 (a6)) 2)))) hp (p.length + 2) 0 (by omega) (by omega))
    simp only [flagstonelaw42_BalanceSteps.j3]
    rw [if_neg (by decide), if_pos h0]
    rfl
  intro n
  induction n with
  | zero =>
    intro i hn hi p q hp hq
    have : i = 9 := by omega
    refine Ev.step (f := fun k => if (i : Int) < (c.length : Int) then (if (i : Int) < (d.length : Int) then (flagstonelaw42_BalanceSteps.j3 k a0 c d a6 p q (i : Int) (decide ((i : Int) < 9))) else (flagstonelaw42_BalanceSteps.j3 k a0 c d a6 p q (i : Int) false)) else (flagstonelaw42_BalanceSteps.j3 k a0 c d a6 p q (i : Int) false)) (fun k => by simp only [flagstonelaw42_BalanceSteps.l0]) ?_
    rw [decide_eq_false (show ¬ (i : Int) < 9 by omega)]
    exact Ev.both (fun _ => Ev.both (fun _ => stop p q i (by omega)) (fun _ => stop p q i (by omega))) (fun _ => stop p q i (by omega))
  | succ n ih =>
    intro i hn hi p q hp hq
    have hw : wrap64 ((i : Int) + 1) = ((i + 1 : Nat) : Int) := by rw [w64_id (by omega) (by omega)]; omega
    refine Ev.step (f := fun k => if (i : Int) < (c.length : Int) then (if (i : Int) < (d.length : Int) then (flagstonelaw42_BalanceSteps.j3 k a0 c d a6 p q (i : Int) (decide ((i : Int) < 9))) else (flagstonelaw42_BalanceSteps.j3 k a0 c d a6 p q (i : Int) false)) else (flagstonelaw42_BalanceSteps.j3 k a0 c d a6 p q (i : Int) false)) (fun k => by simp only [flagstonelaw42_BalanceSteps.l0]) ?_
    rw [decide_eq_true (show (i : Int) < 9 by omega)]
    refine Ev.both (fun h1 => Ev.both (fun h2 => ?_) (fun _ => stop p q i (by omega))) (fun _ => stop p q i (by omega))
    refine Ev.step (fun k => ?_) (ih (i + 1) (by omega) (by omega) (p ++ [Int.tmod (wrap64 (rd c (i : Int))) 514]) (q ++ [Int.tmod (wrap64 (rd d (i : Int))) 10002]) (by simp; omega) (by simp; omega))
    simp only [flagstonelaw42_BalanceSteps.j3]
    rw [if_pos trivial, if_pos (by omega), if_pos h1]
    simp only [Option.bind_some, List.length_cons, List.length_nil]
    rw [if_pos (by omega), if_pos h2, if_pos (by omega), hw]
theorem BalanceSteps : flagstonelaw42_BalanceSteps.Pure := by
  intro a0 l1 l2 a3 l4 l5 a6 w0 m1 y1 w1 m2 y2 w2 w3 m4 y4 w4 m5 y5 w5 w6
  apply Ev.rounds
  unfold flagstonelaw42_BalanceSteps.f
  have out : Ev (fun k => flagstonelaw42_BalanceSteps.j0 k a0 l1 l2 a3 l4 l5 a6 true) true := Ev.step (f := fun _ => some true) (fun k => by simp only [flagstonelaw42_BalanceSteps.j0]; rw [if_pos trivial]) (Ev.now _)
  refine Ev.bind awake_is (Ev.pos rfl (Ev.both (fun _ => out) (fun h1 => ?_)))
  by_cases h2 : (l2.length : Int) > 20
  · rw [decide_eq_true h2]; exact out
  · rw [decide_eq_false h2]
    have b6 := u8_of w6
    refine Ev.step (f := fun k => (balance_Step.f k a0 l1 l2 a3).bind fun bt169 => ((flagstoneref42_Step.f k a0 l1 l2 a3).bind fun bt173 => (if bt169.1 = bt173.1 then ((flagstoneref30_SameInts.f k bt169.2 bt173.2).bind fun t177 => (flagstonelaw42_BalanceSteps.j1 k a0 l4 l5 a6 (!t177))) else (flagstonelaw42_BalanceSteps.j1 k a0 l4 l5 a6 true)))) (fun k => by simp only [flagstonelaw42_BalanceSteps.j0]; rw [if_neg (by decide)]) ?_
    refine Ev.bind (balance_Step_is (by omega)) (Ev.bind (flagstoneref42_Step_is (by omega)) (Ev.pos rfl (Ev.bind (same_self _ ?_) ?_)))
    · rw [stepS_length]; omega
    · refine Ev.step (fun k => ?_) (steps_l0 a0 l4 l5 a6 (by omega) (by omega) (by omega) 9 0 (by omega) (by omega) [] [] rfl rfl)
      simp only [flagstonelaw42_BalanceSteps.j1, Bool.not_true]
      rw [if_neg (by decide)]
      rfl
end Go.Proofs.Ythkgjkmcmkpkcaa.Pure
