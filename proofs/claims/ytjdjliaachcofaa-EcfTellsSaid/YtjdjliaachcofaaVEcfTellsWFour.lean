-- Written by a program of this session (wip/trimw.py), out of the words that print.sh laid: those alone that this claim leans on. Lean checks it.

import Derived.Test.YtjdjliaachcofaaVEcfTellsWTab
namespace Go.Proofs.YtjdjliaachcofaaW.PrintLast
section
variable {P : Program} {ops : Array Oper} {Q : Exit → Act → World → Prop} {md : Region.Mode} {S : World → Prop} {ds : List Nat} {T : Bool × List (List Nat × List Nat)}
end
end Go.Proofs.YtjdjliaachcofaaW.PrintLast
