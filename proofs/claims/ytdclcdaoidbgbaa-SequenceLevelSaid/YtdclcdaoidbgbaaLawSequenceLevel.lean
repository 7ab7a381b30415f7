-- Written by a program of this seat's session (wip/tools/ownprint.py): the row of flagstonelaw41_SequenceLevel.
import Derived.Test.YtdclcdaoidbgbaaRows
import Derived.Test.YtdclcdaoidbgbaaPA21
import Derived.Test.YtdclcdaoidbgbaaPureSequenceLevel
import Derived.Test.YtdclcdaoidbgbaaR1
import Derived.WalkKit
import Derived.ProofKit
import Derived.OpenShut
import Derived.ShutString
import Derived.ChangeOld
import Derived.Below
import Derived.SizedLaws
import Derived.Test.YtdclcdaoidbgbaaVSized
namespace Go.Proofs.Ytdclcdaoidbgbaa.sequenceLevel
open Go.ChangeShapes Go.WideShapes Go.ChangeAt Go.RowKit
open Go.ChangeMaps (open_string shut_string)
open Go.Proofs.YtdclcdaoidbgbaaW.PrintWords Go.Proofs.Ytdclcdaoidbgbaa.A
set_option linter.unusedVariables false
theorem own : ownKnob Try.prog.godebug = none := by kernel_rfl
theorem laidOut : laidOutB Try.prog = true := by kernel_rfl
theorem rd36 : Rd Try.prog 36 PA.k36 (fun y => (Lit.int .u8 y.f0).wf = true ∧ (Lit.int .u8 y.f1).wf = true ∧ (Lit.int .u8 y.f2).wf = true ∧ (Lit.int .u8 y.f3).wf = true) :=
 Rd.map (Rd.struct Try.underlying36 (by kernel_rfl) (RdF.cons (Rd.int Try.underlying5) rfl (by kernel_rfl) (RdF.cons (Rd.int Try.underlying5) rfl (by kernel_rfl) (RdF.cons (Rd.int Try.underlying5) rfl (by kernel_rfl) (RdF.one (Rd.int Try.underlying5) rfl (by kernel_rfl)))))) (fun y => ⟨y.1, y.2.1, y.2.2.1, y.2.2.2⟩) (fun _ _ _ h => h) (fun _ h => h)
set_option maxRecDepth 100000 in
theorem lifted (os : Os) (started : os.Started) (H : Type) (enc : TypeId × Value → H) :
  ReturnsInHanded {} Try.checked os 4 .any (Rows.sequenceLevelSpec.pre6 enc Try.prog Try.f4 Rows.sequenceLevelRow.domain false) (Rows.sequenceLevelSpec.post enc Try.prog Try.f4 false true false false) := by
 refine returnsInHanded_of_change_sized (C := Try.checked) own started (by kernel_rfl) Try.func4
  (ChangeSpec.witness6 (enc := enc) (C := Try.checked) false ⟨#[], #[.agg #[.int .u8 0, .int .u8 0, .int .u8 0, .int .u8 0], .agg #[.int .u8 0, .int .u8 0, .int .u8 0, .int .u8 0], .bool false, .int .u8 0, .int .u8 0, .int .u8 0, .bool false], []⟩ 8 (by kernel_rfl) (by kernel_rfl) (by kernel_rfl) (by kernel_rfl)) ?_
 intro W base args ds gs before hval0 hW hcnd hsz0 _
 have hsz : (DataW.weightsEach Try.prog (Try.f4.params.toList ++ Rows.sequenceLevelSpec.plain.varTypes Try.prog) (ds ++ gs)).all (· ≤ reachBytes) = true := hsz0
 have hval : ∀ (j : Nat) t v, Try.f4.params[j]? = some t → args[j]? = some v → Value.okWide Try.prog W .any base t v := hval0
 have hW' := hW
 obtain ⟨p, q, hA0, hV, rfl, hfz, hnd⟩ := hW
 have hA : DataW.TrodAll enc Try.prog W 0 (fun _ => true) true Try.f4.params.toList args.toList ds p := hA0
 rw [Try.params4] at hA hval hsz
 obtain ⟨v0, vs0, d0, ds0, p0, q0, hargs, rfl, rfl, h0, r0⟩ := trodAll_cons hA
 obtain ⟨v1, vs1, d1, ds1, p1, q1, rfl, rfl, rfl, h1, r1⟩ := trodAll_cons r0
 obtain ⟨v2, vs2, d2, ds2, p2, q2, rfl, rfl, rfl, h2, r2⟩ := trodAll_cons r1
 obtain ⟨v3, vs3, d3, ds3, p3, q3, rfl, rfl, rfl, h3, r3⟩ := trodAll_cons r2
 obtain ⟨v4, vs4, d4, ds4, p4, q4, rfl, rfl, rfl, h4, r4⟩ := trodAll_cons r3
 obtain ⟨v5, vs5, d5, ds5, p5, q5, rfl, rfl, rfl, h5, r5⟩ := trodAll_cons r4
 obtain ⟨v6, vs6, d6, ds6, p6, q6, rfl, rfl, rfl, h6, r6⟩ := trodAll_cons r5
 obtain ⟨rfl, rfl, rfl⟩ := trodAll_nil r6
 obtain rfl : args = #[v0, v1, v2, v3, v4, v5, v6] := by cases args; simp_all
 obtain ⟨rfl, rfl⟩ := trodVars_none hV
 have k0 := h0
 have lt0 : ∀ x ∈ p0, x.block < W.heap.size := by obtain ⟨m, hm⟩ := k0; exact DataW.trod_lt m _ _ _ hm
 obtain ⟨y0, cs0, rfl, hK0, ho0⟩ := agg_of rd36 Try.underlying36 (hval 0 36 v0 rfl rfl) h0
 obtain ⟨_, _, e0, rfl, ⟨_, _, rfl, rfl, ⟨_, _, rfl, rfl, rfl⟩⟩⟩ := hK0
 obtain rfl : cs0 = #[.int .u8 y0.f0, .int .u8 y0.f1, .int .u8 y0.f2, .int .u8 y0.f3] := Array.ext' (by simpa using e0)
 have k1 := h1
 have lt1 : ∀ x ∈ p1, x.block < W.heap.size := by obtain ⟨m, hm⟩ := k1; exact DataW.trod_lt m _ _ _ hm
 obtain ⟨y1, cs1, rfl, hK1, ho1⟩ := agg_of rd36 Try.underlying36 (hval 1 36 v1 rfl rfl) h1
 obtain ⟨_, _, e1, rfl, ⟨_, _, rfl, rfl, ⟨_, _, rfl, rfl, rfl⟩⟩⟩ := hK1
 obtain rfl : cs1 = #[.int .u8 y1.f0, .int .u8 y1.f1, .int .u8 y1.f2, .int .u8 y1.f3] := Array.ext' (by simpa using e1)
 obtain ⟨a2, rfl, rfl, rfl⟩ := open_bool Try.underlying4 (hval 2 4 v2 rfl rfl) h2
 obtain ⟨a3, rfl, rfl, rfl, w3⟩ := open_int Try.underlying5 (hval 3 5 v3 rfl rfl) h3
 obtain ⟨a4, rfl, rfl, rfl, w4⟩ := open_int Try.underlying5 (hval 4 5 v4 rfl rfl) h4
 obtain ⟨a5, rfl, rfl, rfl, w5⟩ := open_int Try.underlying5 (hval 5 5 v5 rfl rfl) h5
 obtain ⟨a6, rfl, rfl, rfl⟩ := open_bool Try.underlying4 (hval 6 4 v6 rfl rfl) h6
 clear hA0 hval0 hsz0 hsz
 obtain ⟨k, h⟩ := Pure.SequenceLevel y0.f0 y0.f1 y0.f2 y0.f3 y1.f0 y1.f1 y1.f2 y1.f3 a2 a3 a4 a5 a6 ho0.1 ho0.2.1 ho0.2.2.1 ho0.2.2.2 ho1.1 ho1.2.1 ho1.2.2.1 ho1.2.2.2 w3 w4 w5
 refine (PA.flagstonelaw41_SequenceLevel.calls k y0.f0 y0.f1 y0.f2 y0.f3 y1.f0 y1.f1 y1.f2 y1.f3 a2 a3 a4 a5 a6 true W  h).mono ?_
 rintro e W' ⟨rfl, bel⟩
 exact ⟨_, rfl, _, _, _, [], _, [], hW', trodAll_mk1 (shut_bool Try.underlying4 _), (trodAll_cons_mk (Below.trod laidOut (by kernel_rfl) (of_decide_eq_true (by kernel_rfl)) k0 bel lt0) (trodAll_cons_mk (Below.trod laidOut (by kernel_rfl) (of_decide_eq_true (by kernel_rfl)) k1 bel lt1) (trodAll_cons_mk (shut_bool Try.underlying4 _) (trodAll_cons_mk (shut_int Try.underlying5 w3) (trodAll_cons_mk (shut_int Try.underlying5 w4) (trodAll_cons_mk (shut_int Try.underlying5 w5) (trodAll_cons_mk (shut_bool Try.underlying4 _) trodAll_mk0))))))), rfl, bel.frame _, fun h => by cases h⟩
theorem over : Rows.sequenceLevelRow.holds Try.pinned (OpenSpec.ofChange Rows.sequenceLevelSpec) :=
 OpenClaim.holds_of_wide 4 Try.f4 rfl rfl rfl rfl rfl rfl rfl ⟨rfl, rfl, rfl, rfl, rfl⟩ rfl rfl rfl rfl rfl (by kernel_rfl) Try.func4 (by kernel_rfl)
  (of_decide_eq_true (by kernel_rfl)) (by unfold Func.isWrapper; first | (rw [if_pos (by decide +kernel)]; kernel_rfl) | (rw [if_neg (by decide +kernel)]; exact ⟨rfl, rfl⟩))
  (fun os started H enc _ => lifted os started H enc)
theorem proved : Rows.SequenceLevelSaid := over
#print axioms proved
end Go.Proofs.Ytdclcdaoidbgbaa.sequenceLevel
namespace Go.Proofs.Ytdclcdaoidbgbaa
/-- The row, under a short name, for the claim. -/
theorem sequenceLevel_holds : Rows.SequenceLevelSaid := sequenceLevel.proved
end Go.Proofs.Ytdclcdaoidbgbaa
