/- The sanity check of chapter 39's statements answers true. -/
import Derived.Test.YtdmhdbebjjhopaaPA6
import Derived.Test.YtdmhdbebjjhopaaA4
namespace Go.Proofs.Ytdmhdbebjjhopaa.PA
open Go Go.RowKit Go.Proofs.YtdmhdbebjjhopaaW.PrintWords Go.Proofs.YtdmhdbebjjhopaaW.PrintLast Go.Proofs.YtdmhdbebjjhopaaW.PrintMore Go.Proofs.Ytdmhdbebjjhopaa.M
set_option linter.unusedVariables false
set_option linter.unusedSimpArgs false

theorem aw39a : ofS ([(⟨(⟨(⟨#[]⟩ : ByteArray), (⟨#[]⟩ : ByteArray), 0, 0, 2, 0⟩ : S32), 4, 0, 0, false⟩ : S34)] : List S34) 0 1 1 10 false = (8, 10, 40, true) := by decide +kernel
theorem aw39b : ofS ([(⟨(⟨(⟨#[]⟩ : ByteArray), (⟨#[]⟩ : ByteArray), 0, 0, 1, 0⟩ : S32), 4, 0, 0, false⟩ : S34)] : List S34) 0 1 1 10 false = (-8, 10, 40, true) := by decide +kernel
theorem awake39_is : Ev (fun k => flagstonelaw39_awake.f k) true := by
  unfold flagstonelaw39_awake.f
  refine Ev.bind (Ev.now _) (Ev.bind (Of_is _ _ _ _ _ _ _ (by decide)) (Ev.pos (by decide) (Ev.bind (Of_is _ _ _ _ _ _ _ (by decide)) ?_)))
  have e : (([(⟨(⟨(⟨#[]⟩ : ByteArray), (⟨#[]⟩ : ByteArray), 0, 0, 2, 0⟩ : S32), 4, 0, 0, false⟩ : S34)] : List S34).set (0 : Int).toNat (⟨(⟨(rd_T34 ([(⟨(⟨(⟨#[]⟩ : ByteArray), (⟨#[]⟩ : ByteArray), 0, 0, 2, 0⟩ : S32), 4, 0, 0, false⟩ : S34)] : List S34) 0).f0.f0, (rd_T34 ([(⟨(⟨(⟨#[]⟩ : ByteArray), (⟨#[]⟩ : ByteArray), 0, 0, 2, 0⟩ : S32), 4, 0, 0, false⟩ : S34)] : List S34) 0).f0.f1, (rd_T34 ([(⟨(⟨(⟨#[]⟩ : ByteArray), (⟨#[]⟩ : ByteArray), 0, 0, 2, 0⟩ : S32), 4, 0, 0, false⟩ : S34)] : List S34) 0).f0.f2, (rd_T34 ([(⟨(⟨(⟨#[]⟩ : ByteArray), (⟨#[]⟩ : ByteArray), 0, 0, 2, 0⟩ : S32), 4, 0, 0, false⟩ : S34)] : List S34) 0).f0.f3, 1, (rd_T34 ([(⟨(⟨(⟨#[]⟩ : ByteArray), (⟨#[]⟩ : ByteArray), 0, 0, 2, 0⟩ : S32), 4, 0, 0, false⟩ : S34)] : List S34) 0).f0.f5⟩ : S32), (rd_T34 ([(⟨(⟨(⟨#[]⟩ : ByteArray), (⟨#[]⟩ : ByteArray), 0, 0, 2, 0⟩ : S32), 4, 0, 0, false⟩ : S34)] : List S34) 0).f1, (rd_T34 ([(⟨(⟨(⟨#[]⟩ : ByteArray), (⟨#[]⟩ : ByteArray), 0, 0, 2, 0⟩ : S32), 4, 0, 0, false⟩ : S34)] : List S34) 0).f2, (rd_T34 ([(⟨(⟨(⟨#[]⟩ : ByteArray), (⟨#[]⟩ : ByteArray), 0, 0, 2, 0⟩ : S32), 4, 0, 0, false⟩ : S34)] : List S34) 0).f3, (rd_T34 ([(⟨(⟨(⟨#[]⟩ : ByteArray), (⟨#[]⟩ : ByteArray), 0, 0, 2, 0⟩ : S32), 4, 0, 0, false⟩ : S34)] : List S34) 0).f4⟩ : S34)) = [(⟨(⟨(⟨#[]⟩ : ByteArray), (⟨#[]⟩ : ByteArray), 0, 0, 1, 0⟩ : S32), 4, 0, 0, false⟩ : S34)] := rfl
  rw [e, aw39a, aw39b]
  exact Ev.pos rfl (Ev.pos rfl (Ev.pos (by decide) (Ev.now _)))
theorem u8s {l : List Int} (h : ∀ x ∈ l, (Lit.int .u8 x).wf = true) : ∀ x ∈ l, 0 ≤ x ∧ x ≤ 255 := fun x hx => u8_of (h x hx)
end Go.Proofs.Ytdmhdbebjjhopaa.PA
