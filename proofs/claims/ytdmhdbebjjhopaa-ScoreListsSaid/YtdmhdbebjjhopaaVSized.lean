-- Written by a program of this seat's session (wip/tools/trim.py): of the words that the kit's print laid for this seat, those that this claim needs (Sized).
import Derived.SizedLaws
import Derived.ChangeSlices
namespace Go.Proofs.YtdmhdbebjjhopaaW.PrintWords
open Go.ChangeShapes Go.WideShapes
end Go.Proofs.YtdmhdbebjjhopaaW.PrintWords
