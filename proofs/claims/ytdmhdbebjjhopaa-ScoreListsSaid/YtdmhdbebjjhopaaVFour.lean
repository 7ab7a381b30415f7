-- Written by a program of this seat's session (wip/tools/trim.py): of the words that the kit's print laid for this seat, those that this claim needs (Four).
import Derived.Test.YtdmhdbebjjhopaaVTab
namespace Go.Proofs.YtdmhdbebjjhopaaW.PrintLast
end Go.Proofs.YtdmhdbebjjhopaaW.PrintLast
