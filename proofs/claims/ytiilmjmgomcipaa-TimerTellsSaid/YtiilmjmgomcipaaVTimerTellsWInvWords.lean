-- Written by a program of this session (wip/trimw.py), out of the words that print.sh laid: those alone that this claim leans on. Lean checks it.

import Derived.Test.YtiilmjmgomcipaaVTimerTellsWInv
import Derived.Test.YtiilmjmgomcipaaVTimerTellsWFootNe
namespace Go.Proofs.YtiilmjmgomcipaaW.PrintWords
open Go.RowKit
end Go.Proofs.YtiilmjmgomcipaaW.PrintWords
namespace Go.Proofs.YtiilmjmgomcipaaW.PrintLast
section
variable {ops : Array Oper} {a : Act} {o og : Oper} {g : Nat} {t : Tmp} {u : Bool}
end
end Go.Proofs.YtiilmjmgomcipaaW.PrintLast
