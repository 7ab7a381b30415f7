-- Written by a program of this seat's session (wip/tools/ownprint.py): the row of flagstonelaw39_ScoreTells.
import Derived.Test.YtdmhdbebjjhopaaRows
import Derived.Test.YtdmhdbebjjhopaaPA12
import Derived.Test.YtdmhdbebjjhopaaPureScoreTells
import Derived.Test.YtdmhdbebjjhopaaR1
import Derived.WalkKit
import Derived.ProofKit
import Derived.OpenShut
import Derived.ShutString
import Derived.ChangeOld
import Derived.Below
import Derived.SizedLaws
import Derived.Test.YtdmhdbebjjhopaaVSized
namespace Go.Proofs.Ytdmhdbebjjhopaa.scoreTells
open Go.ChangeShapes Go.WideShapes Go.ChangeAt Go.RowKit
open Go.ChangeMaps (open_string shut_string)
open Go.Proofs.YtdmhdbebjjhopaaW.PrintWords Go.Proofs.Ytdmhdbebjjhopaa.A
set_option linter.unusedVariables false
theorem own : ownKnob Try.prog.godebug = none := by kernel_rfl
theorem laidOut : laidOutB Try.prog = true := by kernel_rfl
theorem rd42 : Rd Try.prog 42 PA.k42 (fun y => (Lit.int .i64 y.f0).wf = true ∧ (Lit.int .i64 y.f1).wf = true ∧ (Lit.int .i64 y.f2).wf = true) :=
 Rd.map (Rd.struct Try.underlying42 (by kernel_rfl) (RdF.cons (Rd.int Try.underlying3) rfl (by kernel_rfl) (RdF.cons (Rd.int Try.underlying3) rfl (by kernel_rfl) (RdF.one (Rd.int Try.underlying3) rfl (by kernel_rfl))))) (fun y => ⟨y.1, y.2.1, y.2.2⟩) (fun _ _ _ h => h) (fun _ h => h)
set_option maxRecDepth 100000 in
theorem lifted (os : Os) (started : os.Started) (H : Type) (enc : TypeId × Value → H) :
  ReturnsInHanded {} Try.checked os 6 .any (Rows.scoreTellsSpec.pre6 enc Try.prog Try.f6 Rows.scoreTellsRow.domain false) (Rows.scoreTellsSpec.post enc Try.prog Try.f6 false true false false) := by
 refine returnsInHanded_of_change_sized (C := Try.checked) own started (by kernel_rfl) Try.func6
  (ChangeSpec.witness6 (enc := enc) (C := Try.checked) false ⟨#[], #[.slice none 0 0, .agg #[.int .i64 0, .int .i64 0, .int .i64 0], .int .u8 0, .int .u8 0, .int .i64 0, .int .i64 0, .bool false], []⟩ 8 (by kernel_rfl) (by kernel_rfl) (by kernel_rfl) (by kernel_rfl)) ?_
 intro W base args ds gs before hval0 hW hcnd hsz0 _
 have hsz : (DataW.weightsEach Try.prog (Try.f6.params.toList ++ Rows.scoreTellsSpec.plain.varTypes Try.prog) (ds ++ gs)).all (· ≤ reachBytes) = true := hsz0
 have hval : ∀ (j : Nat) t v, Try.f6.params[j]? = some t → args[j]? = some v → Value.okWide Try.prog W .any base t v := hval0
 have hW' := hW
 obtain ⟨p, q, hA0, hV, rfl, hfz, hnd⟩ := hW
 have hA : DataW.TrodAll enc Try.prog W 0 (fun _ => true) true Try.f6.params.toList args.toList ds p := hA0
 rw [Try.params6] at hA hval hsz
 obtain ⟨v0, vs0, d0, ds0, p0, q0, hargs, rfl, rfl, h0, r0⟩ := trodAll_cons hA
 obtain ⟨v1, vs1, d1, ds1, p1, q1, rfl, rfl, rfl, h1, r1⟩ := trodAll_cons r0
 obtain ⟨v2, vs2, d2, ds2, p2, q2, rfl, rfl, rfl, h2, r2⟩ := trodAll_cons r1
 obtain ⟨v3, vs3, d3, ds3, p3, q3, rfl, rfl, rfl, h3, r3⟩ := trodAll_cons r2
 obtain ⟨v4, vs4, d4, ds4, p4, q4, rfl, rfl, rfl, h4, r4⟩ := trodAll_cons r3
 obtain ⟨v5, vs5, d5, ds5, p5, q5, rfl, rfl, rfl, h5, r5⟩ := trodAll_cons r4
 obtain ⟨v6, vs6, d6, ds6, p6, q6, rfl, rfl, rfl, h6, r6⟩ := trodAll_cons r5
 obtain ⟨rfl, rfl, rfl⟩ := trodAll_nil r6
 obtain rfl : args = #[v0, v1, v2, v3, v4, v5, v6] := by cases args; simp_all
 obtain ⟨rfl, rfl⟩ := trodVars_none hV
 have k0 := h0
 have lt0 : ∀ x ∈ p0, x.block < W.heap.size := by obtain ⟨m, hm⟩ := k0; exact DataW.trod_lt m _ _ _ hm
 obtain ⟨l0, A0, c0, rfl, hc0, hr0, hm0, ho0⟩ := slice_of (Rd.slice 5 Try.underlying22 (Rd.int Try.underlying5) (by kernel_rfl)) (okWide_slice Try.underlying22 (hval 0 22 v0 rfl rfl)) h0
 have y0 : l0.length * 1 ≤ 140737488351232 := Go.Proofs.YtdmhdbebjjhopaaW.PrintWords.sized_ints hsz (j := 0) (t := 22) rfl rfl Try.underlying22 Try.underlying5 (by kernel_rfl) (by kernel_rfl) h0
 have k1 := h1
 have lt1 : ∀ x ∈ p1, x.block < W.heap.size := by obtain ⟨m, hm⟩ := k1; exact DataW.trod_lt m _ _ _ hm
 obtain ⟨y1, cs1, rfl, hK1, ho1⟩ := agg_of rd42 Try.underlying42 (hval 1 42 v1 rfl rfl) h1
 obtain ⟨_, _, e1, rfl, ⟨_, _, rfl, rfl, rfl⟩⟩ := hK1
 obtain rfl : cs1 = #[.int .i64 y1.f0, .int .i64 y1.f1, .int .i64 y1.f2] := Array.ext' (by simpa using e1)
 obtain ⟨a2, rfl, rfl, rfl, w2⟩ := open_int Try.underlying5 (hval 2 5 v2 rfl rfl) h2
 obtain ⟨a3, rfl, rfl, rfl, w3⟩ := open_int Try.underlying5 (hval 3 5 v3 rfl rfl) h3
 obtain ⟨a4, rfl, rfl, rfl, w4⟩ := open_int Try.underlying3 (hval 4 3 v4 rfl rfl) h4
 obtain ⟨a5, rfl, rfl, rfl, w5⟩ := open_int Try.underlying3 (hval 5 3 v5 rfl rfl) h5
 obtain ⟨a6, rfl, rfl, rfl⟩ := open_bool Try.underlying4 (hval 6 4 v6 rfl rfl) h6
 clear hA0 hval0 hsz0 hsz
 obtain ⟨k, h⟩ := Pure.ScoreTells l0 y1.f0 y1.f1 y1.f2 a2 a3 a4 a5 a6 hm0 y0 ho0 ho1.1 ho1.2.1 ho1.2.2 w2 w3 w4 w5
 refine (PA.flagstonelaw39_ScoreTells.calls k _ _ l0 y1.f0 y1.f1 y1.f2 a2 a3 a4 a5 a6 true W hr0 hc0 h).mono ?_
 rintro e W' ⟨rfl, bel⟩
 exact ⟨_, rfl, _, _, _, [], _, [], hW', trodAll_mk1 (shut_bool Try.underlying4 _), (trodAll_cons_mk (Below.trod laidOut (by kernel_rfl) (of_decide_eq_true (by kernel_rfl)) k0 bel lt0) (trodAll_cons_mk (Below.trod laidOut (by kernel_rfl) (of_decide_eq_true (by kernel_rfl)) k1 bel lt1) (trodAll_cons_mk (shut_int Try.underlying5 w2) (trodAll_cons_mk (shut_int Try.underlying5 w3) (trodAll_cons_mk (shut_int Try.underlying3 w4) (trodAll_cons_mk (shut_int Try.underlying3 w5) (trodAll_cons_mk (shut_bool Try.underlying4 _) trodAll_mk0))))))), rfl, bel.frame _, fun h => by cases h⟩
theorem over : Rows.scoreTellsRow.holds Try.pinned (OpenSpec.ofChange Rows.scoreTellsSpec) :=
 OpenClaim.holds_of_wide 6 Try.f6 rfl rfl rfl rfl rfl rfl rfl ⟨rfl, rfl, rfl, rfl, rfl⟩ rfl rfl rfl rfl rfl (by kernel_rfl) Try.func6 (by kernel_rfl)
  (of_decide_eq_true (by kernel_rfl)) (by unfold Func.isWrapper; first | (rw [if_pos (by decide +kernel)]; kernel_rfl) | (rw [if_neg (by decide +kernel)]; exact ⟨rfl, rfl⟩))
  (fun os started H enc _ => lifted os started H enc)
theorem proved : Rows.ScoreTellsSaid := over
#print axioms proved
end Go.Proofs.Ytdmhdbebjjhopaa.scoreTells
namespace Go.Proofs.Ytdmhdbebjjhopaa
/-- The row, under a short name, for the claim. -/
theorem scoreTells_holds : Rows.ScoreTellsSaid := scoreTells.proved
end Go.Proofs.Ytdmhdbebjjhopaa
