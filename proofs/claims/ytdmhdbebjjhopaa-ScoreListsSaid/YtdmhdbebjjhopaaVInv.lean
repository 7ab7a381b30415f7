-- Written by a program of this seat's session (wip/tools/trim.py): of the words that the kit's print laid for this seat, those that this claim needs (Inv).
import Derived.Test.YtdmhdbebjjhopaaVTab
namespace Go.Proofs.YtdmhdbebjjhopaaW.PrintLast
def up (b : Nat → Bool) (i : Nat) : Nat → Bool := fun j => if j = i then true else b j
end Go.Proofs.YtdmhdbebjjhopaaW.PrintLast
