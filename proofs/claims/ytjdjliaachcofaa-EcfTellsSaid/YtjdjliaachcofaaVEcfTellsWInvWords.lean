-- Written by a program of this session (wip/trimw.py), out of the words that print.sh laid: those alone that this claim leans on. Lean checks it.

import Derived.Test.YtjdjliaachcofaaVEcfTellsWInv
import Derived.Test.YtjdjliaachcofaaVEcfTellsWFootNe
namespace Go.Proofs.YtjdjliaachcofaaW.PrintWords
open Go.RowKit
end Go.Proofs.YtjdjliaachcofaaW.PrintWords
namespace Go.Proofs.YtjdjliaachcofaaW.PrintLast
section
variable {ops : Array Oper} {a : Act} {o og : Oper} {g : Nat} {t : Tmp} {u : Bool}
end
end Go.Proofs.YtjdjliaachcofaaW.PrintLast
