-- Written by a program of this seat's session (wip/tools/ownprint.py): the row of flagstonelaw41_SequenceOf.
import Derived.Test.YtdclcdaoidbgbaaRows
import Derived.Test.YtdclcdaoidbgbaaPA14
import Derived.Test.YtdclcdaoidbgbaaPureSequenceOf
import Derived.Test.YtdclcdaoidbgbaaR1
import Derived.WalkKit
import Derived.ProofKit
import Derived.OpenShut
import Derived.ShutString
import Derived.ChangeOld
import Derived.Below
import Derived.SizedLaws
import Derived.Test.YtdclcdaoidbgbaaVSized
namespace Go.Proofs.Ytdclcdaoidbgbaa.sequenceOf
open Go.ChangeShapes Go.WideShapes Go.ChangeAt Go.RowKit
open Go.ChangeMaps (open_string shut_string)
open Go.Proofs.YtdclcdaoidbgbaaW.PrintWords Go.Proofs.Ytdclcdaoidbgbaa.A
set_option linter.unusedVariables false
theorem own : ownKnob Try.prog.godebug = none := by kernel_rfl
theorem laidOut : laidOutB Try.prog = true := by kernel_rfl
theorem rd27 : Rd Try.prog 27 PA.k27 (fun y => (y.f0.length ≤ maxLen ∧ ∀ x0 ∈ y.f0, (Lit.int .i64 x0).wf = true) ∧ (y.f1.length ≤ maxLen ∧ ∀ x0 ∈ y.f1, (Lit.int .i64 x0).wf = true)) :=
 Rd.map (Rd.struct Try.underlying27 (by kernel_rfl) (RdF.cons (Rd.slice 3 Try.underlying25 (Rd.int Try.underlying3) (by kernel_rfl)) rfl (by kernel_rfl) (RdF.one (Rd.slice 3 Try.underlying25 (Rd.int Try.underlying3) (by kernel_rfl)) rfl (by kernel_rfl)))) (fun y => ⟨y.1, y.2⟩) (fun _ _ _ h => h) (fun _ h => h)
set_option maxRecDepth 100000 in
theorem lifted (os : Os) (started : os.Started) (H : Type) (enc : TypeId × Value → H) :
  ReturnsInHanded {} Try.checked os 3 .any (Rows.sequenceOfSpec.pre6 enc Try.prog Try.f3 Rows.sequenceOfRow.domain false) (Rows.sequenceOfSpec.post enc Try.prog Try.f3 false true false false) := by
 refine returnsInHanded_of_change_sized (C := Try.checked) own started (by kernel_rfl) Try.func3
  (ChangeSpec.witness6 (enc := enc) (C := Try.checked) false ⟨#[], #[.slice none 0 0, .int .u16 0, .int .i16 0, .agg #[.slice none 0 0, .slice none 0 0]], []⟩ 8 (by kernel_rfl) (by kernel_rfl) (by kernel_rfl) (by kernel_rfl)) ?_
 intro W base args ds gs before hval0 hW hcnd hsz0 _
 have hsz : (DataW.weightsEach Try.prog (Try.f3.params.toList ++ Rows.sequenceOfSpec.plain.varTypes Try.prog) (ds ++ gs)).all (· ≤ reachBytes) = true := hsz0
 have hval : ∀ (j : Nat) t v, Try.f3.params[j]? = some t → args[j]? = some v → Value.okWide Try.prog W .any base t v := hval0
 have hW' := hW
 obtain ⟨p, q, hA0, hV, rfl, hfz, hnd⟩ := hW
 have hA : DataW.TrodAll enc Try.prog W 0 (fun _ => true) true Try.f3.params.toList args.toList ds p := hA0
 rw [Try.params3] at hA hval hsz
 obtain ⟨v0, vs0, d0, ds0, p0, q0, hargs, rfl, rfl, h0, r0⟩ := trodAll_cons hA
 obtain ⟨v1, vs1, d1, ds1, p1, q1, rfl, rfl, rfl, h1, r1⟩ := trodAll_cons r0
 obtain ⟨v2, vs2, d2, ds2, p2, q2, rfl, rfl, rfl, h2, r2⟩ := trodAll_cons r1
 obtain ⟨v3, vs3, d3, ds3, p3, q3, rfl, rfl, rfl, h3, r3⟩ := trodAll_cons r2
 obtain ⟨rfl, rfl, rfl⟩ := trodAll_nil r3
 obtain rfl : args = #[v0, v1, v2, v3] := by cases args; simp_all
 obtain ⟨rfl, rfl⟩ := trodVars_none hV
 have k0 := h0
 have lt0 : ∀ x ∈ p0, x.block < W.heap.size := by obtain ⟨m, hm⟩ := k0; exact DataW.trod_lt m _ _ _ hm
 obtain ⟨l0, A0, c0, rfl, hc0, hr0, hm0, ho0⟩ := slice_of (Rd.slice 5 Try.underlying22 (Rd.int Try.underlying5) (by kernel_rfl)) (okWide_slice Try.underlying22 (hval 0 22 v0 rfl rfl)) h0
 have y0 : l0.length * 1 ≤ 140737488351232 := Go.Proofs.YtdclcdaoidbgbaaW.PrintWords.sized_ints hsz (j := 0) (t := 22) rfl rfl Try.underlying22 Try.underlying5 (by kernel_rfl) (by kernel_rfl) h0
 obtain ⟨a1, rfl, rfl, rfl, w1⟩ := open_int Try.underlying23 (hval 1 23 v1 rfl rfl) h1
 obtain ⟨a2, rfl, rfl, rfl, w2⟩ := open_int Try.underlying24 (hval 2 24 v2 rfl rfl) h2
 have k3 := h3
 have lt3 : ∀ x ∈ p3, x.block < W.heap.size := by obtain ⟨m, hm⟩ := k3; exact DataW.trod_lt m _ _ _ hm
 obtain ⟨y3, cs3, rfl, hK3, ho3⟩ := agg_of rd27 Try.underlying27 (hval 3 27 v3 rfl rfl) h3
 obtain ⟨_, _, e3, ⟨A3_0, c3_0, rfl, hc3_0, hr3_0⟩, ⟨A3_1, c3_1, rfl, hc3_1, hr3_1⟩⟩ := hK3
 obtain rfl : cs3 = #[.slice A3_0 y3.f0.length c3_0, .slice A3_1 y3.f1.length c3_1] := Array.ext' (by simpa using e3)
 clear hA0 hval0 hsz0 hsz
 obtain ⟨k, h⟩ := Pure.SequenceOf l0 a1 a2 y3.f0 y3.f1 hm0 y0 ho0 w1 w2 ho3.1.1 ho3.1.2 ho3.2.1 ho3.2.2
 refine (PA.flagstonelaw41_SequenceOf.calls k _ _ l0 a1 a2 _ _ y3.f0 _ _ y3.f1 true W hr0 hc0 hr3_0 hc3_0 hr3_1 hc3_1 h).mono ?_
 rintro e W' ⟨rfl, bel⟩
 exact ⟨_, rfl, _, _, _, [], _, [], hW', trodAll_mk1 (shut_bool Try.underlying4 _), (trodAll_cons_mk (Below.trod laidOut (by kernel_rfl) (of_decide_eq_true (by kernel_rfl)) k0 bel lt0) (trodAll_cons_mk (shut_int Try.underlying23 w1) (trodAll_cons_mk (shut_int Try.underlying24 w2) (trodAll_cons_mk (Below.trod laidOut (by kernel_rfl) (of_decide_eq_true (by kernel_rfl)) k3 bel lt3) trodAll_mk0)))), rfl, bel.frame _, fun h => by cases h⟩
theorem over : Rows.sequenceOfRow.holds Try.pinned (OpenSpec.ofChange Rows.sequenceOfSpec) :=
 OpenClaim.holds_of_wide 3 Try.f3 rfl rfl rfl rfl rfl rfl rfl ⟨rfl, rfl, rfl, rfl, rfl⟩ rfl rfl rfl rfl rfl (by kernel_rfl) Try.func3 (by kernel_rfl)
  (of_decide_eq_true (by kernel_rfl)) (by unfold Func.isWrapper; first | (rw [if_pos (by decide +kernel)]; kernel_rfl) | (rw [if_neg (by decide +kernel)]; exact ⟨rfl, rfl⟩))
  (fun os started H enc _ => lifted os started H enc)
theorem proved : Rows.SequenceOfSaid := over
#print axioms proved
end Go.Proofs.Ytdclcdaoidbgbaa.sequenceOf
namespace Go.Proofs.Ytdclcdaoidbgbaa
/-- The row, under a short name, for the claim. -/
theorem sequenceOf_holds : Rows.SequenceOfSaid := sequenceOf.proved
end Go.Proofs.Ytdclcdaoidbgbaa
