import Derived.Test.YthkgjkmcmkpkcaaPA8
namespace Go.Proofs.Ythkgjkmcmkpkcaa.Pure
open Go Go.RowKit Go.Proofs.Ythkgjkmcmkpkcaa.PA Go.Proofs.YthkgjkmcmkpkcaaW.PrintWords Go.Proofs.YthkgjkmcmkpkcaaW.PrintLast

/-- What remains of the number behind the twenty is all that counts. -/
theorem finds_mod (x1 : Int) (h0 : 0 ≤ x1) (h1 : x1 ≤ 255) : ∀ (k : Nat) (x0 : Bool) (x5 : List S47) (x6 : Int), flagstonelaw42_BalanceFinds.l0 k x0 x1 x5 x6 = flagstonelaw42_BalanceFinds.l0 k x0 (x1 % 20) x5 x6
  | 0, _, _, _ => rfl
  | k + 1, x0, x5, x6 => by
    have h : Int.tmod (wrap64 x1) 20 = Int.tmod (wrap64 (x1 % 20)) 20 := by
      have e1 : wrap64 x1 = x1 := by unfold wrap64; omega
      have e2 : wrap64 (x1 % 20) = x1 % 20 := by unfold wrap64; omega
      rw [e1, e2, Int.tmod_eq_emod_of_nonneg h0, Int.tmod_eq_emod_of_nonneg (by omega)]
      omega
    simp only [flagstonelaw42_BalanceFinds.l0, h, finds_mod x1 h0 h1 k]
/-- All twenty are found, under both arms: by evaluation. -/
theorem finds_all : (List.range 20).all (fun i => flagstonelaw42_BalanceFinds.f 300 true (i : Int) == some true && flagstonelaw42_BalanceFinds.f 300 false (i : Int) == some true) = true := by kernel_rfl

/-- YOURS: ∀ (a0 : Bool) (a1 : Int), (Lit.int .u8 a1).wf = true → ∃ k, flagstonelaw42_BalanceFinds.f k a0 a1 = some true -/
theorem BalanceFinds : flagstonelaw42_BalanceFinds.Pure := by
  intro a0 a1 hw
  obtain ⟨h0, h1⟩ : 0 ≤ a1 ∧ a1 ≤ 255 := by
    simp only [Lit.wf, Bool.and_eq_true, decide_eq_true_eq] at hw
    exact hw
  refine ⟨300, ?_⟩
  have e : flagstonelaw42_BalanceFinds.f 300 a0 a1 = flagstonelaw42_BalanceFinds.f 300 a0 (a1 % 20) := by
    unfold flagstonelaw42_BalanceFinds.f
    simp only [finds_mod a1 h0 h1]
  rw [e]
  obtain ⟨i, hi⟩ := Int.eq_ofNat_of_zero_le (show 0 ≤ a1 % 20 by omega)
  have hall := List.all_eq_true.mp finds_all i (List.mem_range.mpr (by omega))
  simp only [Bool.and_eq_true, beq_iff_eq] at hall
  rw [hi]
  cases a0
  · exact hall.2
  · exact hall.1
end Go.Proofs.Ythkgjkmcmkpkcaa.Pure
