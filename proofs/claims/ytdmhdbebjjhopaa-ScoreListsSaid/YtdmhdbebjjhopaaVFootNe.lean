-- Written by a program of this seat's session (wip/tools/trim.py): of the words that the kit's print laid for this seat, those that this claim needs (FootNe).
import Derived.Test.YtdmhdbebjjhopaaVN
namespace Go.Proofs.YtdmhdbebjjhopaaW.PrintWords
open Go.RowKit
namespace Kd
end Kd
end Go.Proofs.YtdmhdbebjjhopaaW.PrintWords
