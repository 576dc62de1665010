-- Written by a program of this session (wip/trimw.py), out of the words that print.sh laid: those alone that this claim leans on. Lean checks it.

import Derived.Test.YtjdjliaachcofaaVEcfTellsWWords
import Derived.Laws.StructEq
namespace Go.Proofs.YtjdjliaachcofaaW.PrintWords
open Go.RowKit
section
variable {P : Program} {d : Nat} {xs ys : Array Value} {f : Field} {fs : List Field} {a b : Value} {r s : Bool} {w : World}
end
end Go.Proofs.YtjdjliaachcofaaW.PrintWords
