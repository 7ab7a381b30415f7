-- Written by a program of this seat's session (wip/tools/ownprint.py): the row of flagstonelaw39_ScorePredictsAny.
import Derived.Test.YtdmhdbebjjhopaaRows
import Derived.Test.YtdmhdbebjjhopaaPA17
import Derived.Test.YtdmhdbebjjhopaaPureScorePredictsAny
import Derived.Test.YtdmhdbebjjhopaaR1
import Derived.WalkKit
import Derived.ProofKit
import Derived.OpenShut
import Derived.ShutString
import Derived.ChangeOld
import Derived.Below
import Derived.SizedLaws
import Derived.Test.YtdmhdbebjjhopaaVSized
namespace Go.Proofs.Ytdmhdbebjjhopaa.scorePredictsAny
open Go.ChangeShapes Go.WideShapes Go.ChangeAt Go.RowKit
open Go.ChangeMaps (open_string shut_string)
open Go.Proofs.YtdmhdbebjjhopaaW.PrintWords Go.Proofs.Ytdmhdbebjjhopaa.A
set_option linter.unusedVariables false
theorem own : ownKnob Try.prog.godebug = none := by kernel_rfl
theorem laidOut : laidOutB Try.prog = true := by kernel_rfl
theorem rd32 : Rd Try.prog 32 PA.k32 (fun y => y.f0.size ≤ maxLen ∧ y.f1.size ≤ maxLen ∧ (Lit.int .i64 y.f2).wf = true ∧ (Lit.int .i64 y.f3).wf = true ∧ (Lit.int .i64 y.f4).wf = true ∧ (Lit.int .i64 y.f5).wf = true) :=
 Rd.map (Rd.struct Try.underlying32 (by kernel_rfl) (RdF.cons (Rd.string Try.underlying9) rfl (by kernel_rfl) (RdF.cons (Rd.string Try.underlying9) rfl (by kernel_rfl) (RdF.cons (Rd.int Try.underlying3) rfl (by kernel_rfl) (RdF.cons (Rd.int Try.underlying3) rfl (by kernel_rfl) (RdF.cons (Rd.int Try.underlying3) rfl (by kernel_rfl) (RdF.one (Rd.int Try.underlying3) rfl (by kernel_rfl)))))))) (fun y => ⟨y.1, y.2.1, y.2.2.1, y.2.2.2.1, y.2.2.2.2.1, y.2.2.2.2.2⟩) (fun _ _ _ h => h) (fun _ h => h)
theorem rd34 : Rd Try.prog 34 PA.k34 (fun y => (y.f0.f0.size ≤ maxLen ∧ y.f0.f1.size ≤ maxLen ∧ (Lit.int .i64 y.f0.f2).wf = true ∧ (Lit.int .i64 y.f0.f3).wf = true ∧ (Lit.int .i64 y.f0.f4).wf = true ∧ (Lit.int .i64 y.f0.f5).wf = true) ∧ (Lit.int .i64 y.f1).wf = true ∧ (Lit.int .i64 y.f2).wf = true ∧ (Lit.int .i64 y.f3).wf = true ∧ True) :=
 Rd.map (Rd.struct Try.underlying34 (by kernel_rfl) (RdF.cons rd32 rfl (by kernel_rfl) (RdF.cons (Rd.int Try.underlying3) rfl (by kernel_rfl) (RdF.cons (Rd.int Try.underlying3) rfl (by kernel_rfl) (RdF.cons (Rd.int Try.underlying3) rfl (by kernel_rfl) (RdF.one (Rd.bool Try.underlying4) rfl (by kernel_rfl))))))) (fun y => ⟨y.1, y.2.1, y.2.2.1, y.2.2.2.1, y.2.2.2.2⟩) (fun _ _ _ h => h) (fun _ h => h)
set_option maxRecDepth 100000 in
theorem lifted (os : Os) (started : os.Started) (H : Type) (enc : TypeId × Value → H) :
  ReturnsInHanded {} Try.checked os 4 .any (Rows.scorePredictsAnySpec.pre6 enc Try.prog Try.f4 Rows.scorePredictsAnyRow.domain false) (Rows.scorePredictsAnySpec.post enc Try.prog Try.f4 false true false false) := by
 refine returnsInHanded_of_change_sized (C := Try.checked) own started (by kernel_rfl) Try.func4
  (ChangeSpec.witness6 (enc := enc) (C := Try.checked) false ⟨#[], #[.slice none 0 0, .int .u8 0, .int .u8 0, .int .u16 0], []⟩ 8 (by kernel_rfl) (by kernel_rfl) (by kernel_rfl) (by kernel_rfl)) ?_
 intro W base args ds gs before hval0 hW hcnd hsz0 _
 have hsz : (DataW.weightsEach Try.prog (Try.f4.params.toList ++ Rows.scorePredictsAnySpec.plain.varTypes Try.prog) (ds ++ gs)).all (· ≤ reachBytes) = true := hsz0
 have hval : ∀ (j : Nat) t v, Try.f4.params[j]? = some t → args[j]? = some v → Value.okWide Try.prog W .any base t v := hval0
 have hW' := hW
 obtain ⟨p, q, hA0, hV, rfl, hfz, hnd⟩ := hW
 have hA : DataW.TrodAll enc Try.prog W 0 (fun _ => true) true Try.f4.params.toList args.toList ds p := hA0
 rw [Try.params4] at hA hval hsz
 obtain ⟨v0, vs0, d0, ds0, p0, q0, hargs, rfl, rfl, h0, r0⟩ := trodAll_cons hA
 obtain ⟨v1, vs1, d1, ds1, p1, q1, rfl, rfl, rfl, h1, r1⟩ := trodAll_cons r0
 obtain ⟨v2, vs2, d2, ds2, p2, q2, rfl, rfl, rfl, h2, r2⟩ := trodAll_cons r1
 obtain ⟨v3, vs3, d3, ds3, p3, q3, rfl, rfl, rfl, h3, r3⟩ := trodAll_cons r2
 obtain ⟨rfl, rfl, rfl⟩ := trodAll_nil r3
 obtain rfl : args = #[v0, v1, v2, v3] := by cases args; simp_all
 obtain ⟨rfl, rfl⟩ := trodVars_none hV
 have k0 := h0
 have lt0 : ∀ x ∈ p0, x.block < W.heap.size := by obtain ⟨m, hm⟩ := k0; exact DataW.trod_lt m _ _ _ hm
 obtain ⟨l0, A0, c0, rfl, hc0, hr0, hm0, ho0⟩ := slice_of (Rd.slice 34 Try.underlying25 rd34 (by kernel_rfl)) (okWide_slice Try.underlying25 (hval 0 25 v0 rfl rfl)) h0
 obtain ⟨a1, rfl, rfl, rfl, w1⟩ := open_int Try.underlying5 (hval 1 5 v1 rfl rfl) h1
 obtain ⟨a2, rfl, rfl, rfl, w2⟩ := open_int Try.underlying5 (hval 2 5 v2 rfl rfl) h2
 obtain ⟨a3, rfl, rfl, rfl, w3⟩ := open_int Try.underlying23 (hval 3 23 v3 rfl rfl) h3
 clear hA0 hval0 hsz0 hsz
 obtain ⟨k, h⟩ := Pure.ScorePredictsAny l0 a1 a2 a3 hm0 ho0 w1 w2 w3
 refine (PA.flagstonelaw39_ScorePredictsAny.calls k _ _ l0 a1 a2 a3 true W hr0 hc0 h).mono ?_
 rintro e W' ⟨rfl, bel⟩
 exact ⟨_, rfl, _, _, _, [], _, [], hW', trodAll_mk1 (shut_bool Try.underlying4 _), (trodAll_cons_mk (Below.trod laidOut (by kernel_rfl) (of_decide_eq_true (by kernel_rfl)) k0 bel lt0) (trodAll_cons_mk (shut_int Try.underlying5 w1) (trodAll_cons_mk (shut_int Try.underlying5 w2) (trodAll_cons_mk (shut_int Try.underlying23 w3) trodAll_mk0)))), rfl, bel.frame _, fun h => by cases h⟩
theorem over : Rows.scorePredictsAnyRow.holds Try.pinned (OpenSpec.ofChange Rows.scorePredictsAnySpec) :=
 OpenClaim.holds_of_wide 4 Try.f4 rfl rfl rfl rfl rfl rfl rfl ⟨rfl, rfl, rfl, rfl, rfl⟩ rfl rfl rfl rfl rfl (by kernel_rfl) Try.func4 (by kernel_rfl)
  (of_decide_eq_true (by kernel_rfl)) (by unfold Func.isWrapper; first | (rw [if_pos (by decide +kernel)]; kernel_rfl) | (rw [if_neg (by decide +kernel)]; exact ⟨rfl, rfl⟩))
  (fun os started H enc _ => lifted os started H enc)
theorem proved : Rows.ScorePredictsAnySaid := over
#print axioms proved
end Go.Proofs.Ytdmhdbebjjhopaa.scorePredictsAny
namespace Go.Proofs.Ytdmhdbebjjhopaa
/-- The row, under a short name, for the claim. -/
theorem scorePredictsAny_holds : Rows.ScorePredictsAnySaid := scorePredictsAny.proved
end Go.Proofs.Ytdmhdbebjjhopaa
