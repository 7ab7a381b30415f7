-- Written by a program of this seat's session (wip/tools/trim.py): of the words that the kit's print laid for this seat, those that this claim needs (EqStruct).
import Derived.Test.YtdclcdaoidbgbaaVWords
import Derived.Laws.StructEq
namespace Go.Proofs.YtdclcdaoidbgbaaW.PrintWords
open Go.RowKit
section
variable {P : Program} {d : Nat} {xs ys : Array Value} {f : Field} {fs : List Field} {a b : Value} {r s : Bool} {w : World}
end
end Go.Proofs.YtdclcdaoidbgbaaW.PrintWords
