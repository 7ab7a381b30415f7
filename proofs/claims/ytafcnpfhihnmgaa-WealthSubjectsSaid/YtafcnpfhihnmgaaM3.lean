/- How answers are carried through printed functions; what Grow answers, of the program and of the document's text. -/
import Derived.Test.YtafcnpfhihnmgaaPA2
import Derived.Test.YtafcnpfhihnmgaaM2
namespace Go.Proofs.Ytafcnpfhihnmgaa.PA
open Go Go.RowKit Go.Proofs.YtafcnpfhihnmgaaW.PrintWords Go.Proofs.YtafcnpfhihnmgaaW.PrintLast Go.Proofs.YtafcnpfhihnmgaaW.PrintMore Go.Proofs.Ytafcnpfhihnmgaa.M
set_option linter.unusedVariables false
set_option linter.unusedSimpArgs false

theorem Ev.pos {α : Type} {c : Prop} [Decidable c] {g f : Nat → Option α} {r : α} (hc : c) (h : Ev g r) : Ev (fun k => if c then g k else f k) r := by
  obtain ⟨K, h⟩ := h
  exact ⟨K, fun k hk => (if_pos hc).trans (h k hk)⟩
theorem Ev.neg {α : Type} {c : Prop} [Decidable c] {g f : Nat → Option α} {r : α} (hc : ¬ c) (h : Ev f r) : Ev (fun k => if c then g k else f k) r := by
  obtain ⟨K, h⟩ := h
  exact ⟨K, fun k hk => (if_neg hc).trans (h k hk)⟩
/-- Either way. -/
theorem Ev.both {α : Type} {c : Prop} [Decidable c] {g f : Nat → Option α} {r : α} (h1 : c → Ev g r) (h2 : ¬ c → Ev f r) : Ev (fun k => if c then g k else f k) r := by
  by_cases hc : c
  · exact Ev.pos hc (h1 hc)
  · exact Ev.neg hc (h2 hc)

/-- min (w num / den, MaxFixed), 0 outside of what is expected. -/
def growS (w num den : Int) : Int :=
  if w < 0 ∨ 2305843009213693952 < w ∨ den < 1 ∨ 4611686018427387904 < den ∨ num < 0 then 0 else if w * num / den ≤ 2305843009213693952 then w * num / den else 2305843009213693952

theorem wealth_Grow_bad (a b c : Int) : Ev (fun k => wealth_Grow.j0 k a b c true) 0 := Ev.step (f := fun _ => some 0) (fun k => by simp only [wealth_Grow.j0]; rw [if_pos (by trivial)]) (Ev.now _)
theorem wealth_Grow_good {a b c : Int} (a0 : 0 ≤ a) (a1 : a ≤ 2305843009213693952) (c0 : 1 ≤ c) (c1 : c ≤ 4611686018427387904) (b0 : 0 ≤ b) (b1 : b ≤ 9223372036854775807) :
    Ev (fun k => wealth_Grow.j0 k a b c false) (if a * b / c ≤ 2305843009213693952 then a * b / c else 2305843009213693952) := by
  refine Ev.step (f := fun k => (bits_Mul64.f (IntKind.u64.wrap a) (IntKind.u64.wrap b)).bind fun bt => (if bt.1 ≥ (IntKind.u64.wrap c) then (some 2305843009213693952) else ((bits_Div64.f k bt.1 bt.2 (IntKind.u64.wrap c)).bind fun bt2 => (some (wrap64 (mn bt2.1 2305843009213693952)))))) (fun k => by simp only [wealth_Grow.j0]; rw [if_neg (by decide)]) ?_
  rw [u64_id a0 (by omega), u64_id b0 (by omega), u64_id (x := c) (by omega) (by omega), mul64 a0 (by omega) b0 (by omega)]
  have hp : 0 ≤ a * b := Int.mul_nonneg a0 b0
  have hlo : 0 ≤ a * b % 18446744073709551616 ∧ a * b % 18446744073709551616 < 18446744073709551616 := by omega
  have hhi : 0 ≤ a * b / 18446744073709551616 := by omega
  simp only [Option.bind_some]
  by_cases hc : a * b / 18446744073709551616 ≥ c
  · refine Ev.pos hc ?_
    have : 18446744073709551616 ≤ a * b / c := by
      apply Int.le_ediv_of_mul_le (by omega)
      omega
    rw [if_neg (by omega)]
    exact Ev.now _
  · refine Ev.neg hc ?_
    obtain ⟨z, hz⟩ := div64 hhi (by omega) hlo.1 hlo.2 (y := c) (by omega)
    rw [show 18446744073709551616 * (a * b / 18446744073709551616) + a * b % 18446744073709551616 = a * b by omega] at hz
    refine Ev.bind hz ?_
    have hq : 0 ≤ a * b / c := Int.ediv_nonneg hp (by omega)
    have : wrap64 (mn (a * b / c) 2305843009213693952) = if a * b / c ≤ 2305843009213693952 then a * b / c else 2305843009213693952 := by
      unfold mn
      by_cases h : a * b / c ≤ 2305843009213693952
      · rw [if_neg (by omega), if_pos h]; exact w64_id (by omega) (by omega)
      · rw [if_pos (by omega), if_neg h]; exact w64_id (by omega) (by omega)
    simp only [this]
    exact Ev.now _
theorem wealth_Grow_is {a b c : Int} (b1 : b ≤ 9223372036854775807) : Ev (fun k => wealth_Grow.f k a b c) (growS a b c) := by
  unfold wealth_Grow.f growS
  by_cases h : a < 0 ∨ 2305843009213693952 < a ∨ c < 1 ∨ 4611686018427387904 < c ∨ b < 0
  · rw [if_pos h]
    refine Ev.both (fun _ => wealth_Grow_bad a b c) (fun h1 => Ev.both (fun _ => wealth_Grow_bad a b c) (fun h2 => Ev.both (fun _ => wealth_Grow_bad a b c) (fun h3 => Ev.both (fun _ => wealth_Grow_bad a b c) (fun h4 => ?_))))
    rw [decide_eq_true (show b < 0 by omega)]
    exact wealth_Grow_bad a b c
  · rw [if_neg h]
    refine Ev.neg (by omega) (Ev.neg (by omega) (Ev.neg (by omega) (Ev.neg (by omega) ?_)))
    rw [decide_eq_false (show ¬ b < 0 by omega)]
    exact wealth_Grow_good (by omega) (by omega) (by omega) (by omega) (by omega) b1

end Go.Proofs.Ytafcnpfhihnmgaa.PA
