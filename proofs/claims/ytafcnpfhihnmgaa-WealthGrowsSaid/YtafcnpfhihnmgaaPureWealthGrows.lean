/- Grow of the program equals Grow of the document's text, for every argument: both are min (w num / den, MaxFixed), and 0 outside of what is expected. No condition. -/
import Derived.Test.YtafcnpfhihnmgaaPA3
import Derived.Test.YtafcnpfhihnmgaaM3
namespace Go.Proofs.Ytafcnpfhihnmgaa.Pure
open Go Go.RowKit Go.Proofs.Ytafcnpfhihnmgaa.PA Go.Proofs.YtafcnpfhihnmgaaW.PrintWords Go.Proofs.YtafcnpfhihnmgaaW.PrintLast Go.Proofs.YtafcnpfhihnmgaaW.PrintMore Go.Proofs.Ytafcnpfhihnmgaa.M

theorem shr_le {x y m : Int} (h0 : 0 ≤ x) (h : x ≤ m) : shr .i64 x y ≤ m := by
  unfold shr
  have := Int.ediv_le_self (2 ^ min y.toNat IntKind.i64.bits) h0
  omega
theorem WealthGrows : flagstonelaw40_WealthGrows.Pure := by
  intro a0 a1 a2 a3 a4 a5 w0 w1 w2 w3 w4 w5
  have b1 := i64_of w1
  have b3 := u8_of w3
  have b4 := u8_of w4
  have b5 := u8_of w5
  apply Ev.rounds
  unfold flagstonelaw40_WealthGrows.f
  have t0 : ∀ x : Int, 0 ≤ x → 0 ≤ Int.tmod x 62 := fun x hx => by rw [Int.tmod_eq_emod_of_nonneg hx]; omega
  have hu : ∀ x : Int, 0 ≤ IntKind.u64.wrap x / 2 ∧ IntKind.u64.wrap x / 2 ≤ 9223372036854775807 := fun x => by rw [u64]; omega
  have hw : ∀ x : Int, wrap64 (IntKind.u64.wrap x / 2) = IntKind.u64.wrap x / 2 := fun x => w64_id (by have := hu x; omega) (by have := hu x; omega)
  have hy : shr .i64 (wrap64 ((IntKind.u64.wrap (a1)) / 2)) (Int.tmod a4 62) ≤ 9223372036854775807 := by
    rw [hw]; exact shr_le (hu a1).1 (hu a1).2
  have wr : ∀ x : Int, wrap64 x ≤ 9223372036854775807 := fun x => by unfold wrap64; omega
  refine Ev.bind awake_is (Ev.pos rfl (Ev.pos (t0 _ b3.1) (Ev.pos (t0 _ b4.1) (Ev.pos (t0 _ b5.1) ?_))))
  refine Ev.bind (wealth_Grow_is b1.2) (Ev.bind (flagstoneref40_Grow_is b1.2) (Ev.pos rfl ?_))
  refine Ev.bind (wealth_Grow_is hy) (Ev.bind (flagstoneref40_Grow_is hy) (Ev.pos rfl ?_))
  refine Ev.bind (wealth_Grow_is hy) (Ev.bind (flagstoneref40_Grow_is hy) (Ev.pos rfl ?_))
  refine Ev.bind (wealth_Grow_is (wr _)) (Ev.bind (flagstoneref40_Grow_is (wr _)) ?_)
  simp only [beq_self_eq_true]
  exact Ev.now _
end Go.Proofs.Ytafcnpfhihnmgaa.Pure
