-- Written by a program of this seat's session (wip/tools/ownprint.py): the row of flagstonelaw40_WealthFactors.
import Derived.Test.YtafcnpfhihnmgaaRows
import Derived.Test.YtafcnpfhihnmgaaPA4
import Derived.Test.YtafcnpfhihnmgaaPureWealthFactors
import Derived.Test.YtafcnpfhihnmgaaR1
import Derived.WalkKit
import Derived.ProofKit
import Derived.OpenShut
import Derived.ShutString
import Derived.ChangeOld
import Derived.Below
import Derived.SizedLaws
import Derived.Test.YtafcnpfhihnmgaaWSized
namespace Go.Proofs.Ytafcnpfhihnmgaa.wealthFactors
open Go.ChangeShapes Go.WideShapes Go.ChangeAt Go.RowKit
open Go.ChangeMaps (open_string shut_string)
open Go.Proofs.YtafcnpfhihnmgaaW.PrintWords Go.Proofs.Ytafcnpfhihnmgaa.A
set_option linter.unusedVariables false
theorem own : ownKnob Try.prog.godebug = none := by kernel_rfl
theorem laidOut : laidOutB Try.prog = true := by kernel_rfl
theorem rd28 : Rd Try.prog 28 PA.k28 (fun y => (Lit.int .i64 y.f0).wf = true ∧ (Lit.int .i64 y.f1).wf = true ∧ (Lit.int .i64 y.f2).wf = true) :=
  Rd.map (Rd.struct Try.underlying28 (by kernel_rfl) (RdF.cons (Rd.int Try.underlying3) rfl (by kernel_rfl) (RdF.cons (Rd.int Try.underlying3) rfl (by kernel_rfl) (RdF.one (Rd.int Try.underlying3) rfl (by kernel_rfl))))) (fun y => ⟨y.1, y.2.1, y.2.2⟩) (fun _ _ _ h => h) (fun _ h => h)
set_option maxRecDepth 100000 in
theorem lifted (os : Os) (started : os.Started) (H : Type) (enc : TypeId × Value → H) :
    ReturnsInHanded {} Try.checked os 4 .any (Rows.wealthFactorsSpec.pre6 enc Try.prog Try.f4 Rows.wealthFactorsRow.domain false) (Rows.wealthFactorsSpec.post enc Try.prog Try.f4 false true false false) := by
  refine returnsInHanded_of_change_sized (C := Try.checked) own started (by kernel_rfl) Try.func4
    (ChangeSpec.witness6 (enc := enc) (C := Try.checked) false ⟨#[], #[.agg #[.int .i64 0, .int .i64 0, .int .i64 0], .int .i64 0, .int .i64 0, .slice none 0 0, .int .i16 0, .bool false], []⟩ 8 (by kernel_rfl) (by kernel_rfl) (by kernel_rfl) (by kernel_rfl)) ?_
  intro W base args ds gs before hval0 hW hcnd hsz0 _
  have hsz : (DataW.weightsEach Try.prog (Try.f4.params.toList ++ Rows.wealthFactorsSpec.plain.varTypes Try.prog) (ds ++ gs)).all (· ≤ reachBytes) = true := hsz0
  have hval : ∀ (j : Nat) t v, Try.f4.params[j]? = some t → args[j]? = some v → Value.okWide Try.prog W .any base t v := hval0
  have hW' := hW
  obtain ⟨p, q, hA0, hV, rfl, hfz, hnd⟩ := hW
  have hA : DataW.TrodAll enc Try.prog W 0 (fun _ => true) true Try.f4.params.toList args.toList ds p := hA0
  rw [Try.params4] at hA hval hsz
  obtain ⟨v0, vs0, d0, ds0, p0, q0, hargs, rfl, rfl, h0, r0⟩ := trodAll_cons hA
  obtain ⟨v1, vs1, d1, ds1, p1, q1, rfl, rfl, rfl, h1, r1⟩ := trodAll_cons r0
  obtain ⟨v2, vs2, d2, ds2, p2, q2, rfl, rfl, rfl, h2, r2⟩ := trodAll_cons r1
  obtain ⟨v3, vs3, d3, ds3, p3, q3, rfl, rfl, rfl, h3, r3⟩ := trodAll_cons r2
  obtain ⟨v4, vs4, d4, ds4, p4, q4, rfl, rfl, rfl, h4, r4⟩ := trodAll_cons r3
  obtain ⟨v5, vs5, d5, ds5, p5, q5, rfl, rfl, rfl, h5, r5⟩ := trodAll_cons r4
  obtain ⟨rfl, rfl, rfl⟩ := trodAll_nil r5
  obtain rfl : args = #[v0, v1, v2, v3, v4, v5] := by cases args; simp_all
  obtain ⟨rfl, rfl⟩ := trodVars_none hV
  have k0 := h0
  have lt0 : ∀ x ∈ p0, x.block < W.heap.size := by obtain ⟨m, hm⟩ := k0; exact DataW.trod_lt m _ _ _ hm
  obtain ⟨y0, cs0, rfl, hK0, ho0⟩ := agg_of rd28 Try.underlying28 (hval 0 28 v0 rfl rfl) h0
  obtain ⟨_, _, e0, rfl, ⟨_, _, rfl, rfl, rfl⟩⟩ := hK0
  obtain rfl : cs0 = #[.int .i64 y0.f0, .int .i64 y0.f1, .int .i64 y0.f2] := Array.ext' (by simpa using e0)
  obtain ⟨a1, rfl, rfl, rfl, w1⟩ := open_int Try.underlying3 (hval 1 3 v1 rfl rfl) h1
  obtain ⟨a2, rfl, rfl, rfl, w2⟩ := open_int Try.underlying3 (hval 2 3 v2 rfl rfl) h2
  have k3 := h3
  have lt3 : ∀ x ∈ p3, x.block < W.heap.size := by obtain ⟨m, hm⟩ := k3; exact DataW.trod_lt m _ _ _ hm
  obtain ⟨l3, A3, c3, rfl, hc3, hr3, hm3, ho3⟩ := slice_of (Rd.slice 5 Try.underlying29 (Rd.int Try.underlying5) (by kernel_rfl)) (okWide_slice Try.underlying29 (hval 3 29 v3 rfl rfl)) h3
  have y3 : l3.length * 1 ≤ 140737488351232 := Go.Proofs.YtafcnpfhihnmgaaW.PrintWords.sized_ints hsz (j := 3) (t := 29) rfl rfl Try.underlying29 Try.underlying5 (by kernel_rfl) (by kernel_rfl) h3
  obtain ⟨a4, rfl, rfl, rfl, w4⟩ := open_int Try.underlying30 (hval 4 30 v4 rfl rfl) h4
  obtain ⟨a5, rfl, rfl, rfl⟩ := open_bool Try.underlying4 (hval 5 4 v5 rfl rfl) h5
  clear hA0 hval0 hsz0 hsz
  obtain ⟨k, h⟩ := Pure.WealthFactors y0.f0 y0.f1 y0.f2 a1 a2 l3 a4 a5 ho0.1 ho0.2.1 ho0.2.2 w1 w2 hm3 y3 ho3 w4
  refine (PA.flagstonelaw40_WealthFactors.calls k y0.f0 y0.f1 y0.f2 a1 a2 _ _ l3 a4 a5 true W hr3 hc3 h).mono ?_
  rintro e W' ⟨rfl, bel⟩
  exact ⟨_, rfl, _, _, _, [], _, [], hW', trodAll_mk1 (shut_bool Try.underlying4 _), (trodAll_cons_mk (Below.trod laidOut (by kernel_rfl) (of_decide_eq_true (by kernel_rfl)) k0 bel lt0) (trodAll_cons_mk (shut_int Try.underlying3 w1) (trodAll_cons_mk (shut_int Try.underlying3 w2) (trodAll_cons_mk (Below.trod laidOut (by kernel_rfl) (of_decide_eq_true (by kernel_rfl)) k3 bel lt3) (trodAll_cons_mk (shut_int Try.underlying30 w4) (trodAll_cons_mk (shut_bool Try.underlying4 _) trodAll_mk0)))))), rfl, bel.frame _, fun h => by cases h⟩
theorem over : Rows.wealthFactorsRow.holds Try.pinned (OpenSpec.ofChange Rows.wealthFactorsSpec) :=
  OpenClaim.holds_of_wide 4 Try.f4 rfl rfl rfl rfl rfl rfl rfl ⟨rfl, rfl, rfl, rfl, rfl⟩ rfl rfl rfl rfl rfl (by kernel_rfl) Try.func4 (by kernel_rfl)
    (of_decide_eq_true (by kernel_rfl)) (by unfold Func.isWrapper; first | (rw [if_pos (by decide +kernel)]; kernel_rfl) | (rw [if_neg (by decide +kernel)]; exact ⟨rfl, rfl⟩))
    (fun os started H enc _ => lifted os started H enc)
theorem proved : Rows.WealthFactorsSaid := over
#print axioms proved
end Go.Proofs.Ytafcnpfhihnmgaa.wealthFactors
namespace Go.Proofs.Ytafcnpfhihnmgaa
/-- The row, under a short name, for the claim. -/
theorem wealthFactors_holds : Rows.WealthFactorsSaid := wealthFactors.proved
end Go.Proofs.Ytafcnpfhihnmgaa
