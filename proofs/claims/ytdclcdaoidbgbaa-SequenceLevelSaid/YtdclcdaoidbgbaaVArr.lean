-- Written by a program of this seat's session (wip/tools/trim.py): of the words that the kit's print laid for this seat, those that this claim needs (Arr).
import Derived.Test.YtdclcdaoidbgbaaVWords
namespace Go.Proofs.YtdclcdaoidbgbaaW.PrintWords
open Go.RowKit
namespace Kd
end Kd
end Go.Proofs.YtdclcdaoidbgbaaW.PrintWords
