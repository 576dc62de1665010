-- Written by a program of this session (wip/trimw.py), out of the words that print.sh laid: those alone that this claim leans on. Lean checks it.

import Derived.Test.YtjdjliaachcofaaVEcfTellsWN
namespace Go.Proofs.YtjdjliaachcofaaW.PrintWords
open Go.RowKit
namespace Kd
section
variable {α : Type} {d : Kd α} {W : World} {g n : Nat} {S ok : Nat → Prop} {A : Option Addr} {ad : Addr} {xs : List α}
end
end Kd
end Go.Proofs.YtjdjliaachcofaaW.PrintWords
