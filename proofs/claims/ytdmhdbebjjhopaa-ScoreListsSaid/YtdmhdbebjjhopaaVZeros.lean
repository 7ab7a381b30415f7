-- Written by a program of this seat's session (wip/tools/trim.py): of the words that the kit's print laid for this seat, those that this claim needs (Zeros).
import Derived.Test.YtdmhdbebjjhopaaVApart
import Derived.Test.YtdmhdbebjjhopaaVArr
namespace Go.Proofs.YtdmhdbebjjhopaaW.PrintWords
open Go.RowKit
namespace Kd
end Kd
end Go.Proofs.YtdmhdbebjjhopaaW.PrintWords
