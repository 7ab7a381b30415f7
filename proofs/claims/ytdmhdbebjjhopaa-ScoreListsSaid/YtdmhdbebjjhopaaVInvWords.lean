-- Written by a program of this seat's session (wip/tools/trim.py): of the words that the kit's print laid for this seat, those that this claim needs (InvWords).
import Derived.Test.YtdmhdbebjjhopaaVInv
import Derived.Test.YtdmhdbebjjhopaaVFootNe
namespace Go.Proofs.YtdmhdbebjjhopaaW.PrintWords
open Go.RowKit
end Go.Proofs.YtdmhdbebjjhopaaW.PrintWords
namespace Go.Proofs.YtdmhdbebjjhopaaW.PrintLast
section
variable {ops : Array Oper} {a : Act} {o og : Oper} {g : Nat} {t : Tmp} {u : Bool}
end
end Go.Proofs.YtdmhdbebjjhopaaW.PrintLast
