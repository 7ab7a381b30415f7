-- Written by a program of this seat's session (wip/tools/trim.py): of the words that the kit's print laid for this seat, those that this claim needs (Four).
import Derived.Test.YtdclcdaoidbgbaaVTab
namespace Go.Proofs.YtdclcdaoidbgbaaW.PrintLast
end Go.Proofs.YtdclcdaoidbgbaaW.PrintLast
