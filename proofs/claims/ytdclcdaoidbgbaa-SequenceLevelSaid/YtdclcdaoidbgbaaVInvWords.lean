-- Written by a program of this seat's session (wip/tools/trim.py): of the words that the kit's print laid for this seat, those that this claim needs (InvWords).
import Derived.Test.YtdclcdaoidbgbaaVInv
import Derived.Test.YtdclcdaoidbgbaaVFootNe
namespace Go.Proofs.YtdclcdaoidbgbaaW.PrintWords
open Go.RowKit
end Go.Proofs.YtdclcdaoidbgbaaW.PrintWords
namespace Go.Proofs.YtdclcdaoidbgbaaW.PrintLast
section
variable {ops : Array Oper} {a : Act} {o og : Oper} {g : Nat} {t : Tmp} {u : Bool}
end
end Go.Proofs.YtdclcdaoidbgbaaW.PrintLast
