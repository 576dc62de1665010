-- Written by a program of this session (wip/hprint.py), over the kit's print.py: the walk of one law. Lean checks it.
import Derived.Test.YtieiamkcdgppaaaProg
import Derived.Below
import Derived.Deep.Draws
import Derived.Deep.AppendLies
import Derived.Maps.AppendAt
import Derived.OwnWalk
import Derived.Laws.BytesArg
import Derived.Laws.MakeOwn
import Derived.Laws.OwnMore
import Derived.Deep.OwnRows
import Derived.Tactics
import Derived.Lib.ConvBytes
import Derived.Laws.Slices
import Derived.WalkKit
import Derived.KernelRfl
import Derived.RowKit3
import Derived.Deep.LoopGhost
import Derived.Deep.QuietTactic
import Derived.BigQuiet
import Derived.WideLaws
import Derived.Deep.DeepCutAuto
import Derived.Deep.CutBlock
import Derived.Deep.RegionHeld3
import Derived.Laws.Rows
import Derived.Lib.AppendStr
import Derived.ArgAppend
import Derived.Laws.IdiomCopy
import Derived.OrdersHeld
import Derived.Laws.BitsLemmas
import Derived.RowKit
import Derived.Test.YtieiamkcdgppaaaWWords
import Derived.Test.YtieiamkcdgppaaaWLast
import Derived.Test.YtieiamkcdgppaaaWTab
import Derived.Test.YtieiamkcdgppaaaWFour
import Derived.Test.YtieiamkcdgppaaaWQPut
import Derived.Test.YtieiamkcdgppaaaWApart
import Derived.Test.YtieiamkcdgppaaaWArr
import Derived.Test.YtieiamkcdgppaaaWZeros
import Derived.Test.YtieiamkcdgppaaaWFoot
import Derived.Test.YtieiamkcdgppaaaWKept
import Derived.Test.YtieiamkcdgppaaaWShare
import Derived.Test.YtieiamkcdgppaaaWN
import Derived.Test.YtieiamkcdgppaaaWFootNe
import Derived.Test.YtieiamkcdgppaaaWAt
import Derived.Test.YtieiamkcdgppaaaWEqStruct
import Derived.Test.YtieiamkcdgppaaaWRepsOne
import Derived.Test.YtieiamkcdgppaaaWInv
import Derived.Test.YtieiamkcdgppaaaWInvWords
import Derived.Test.YtieiamkcdgppaaaWGuard
import Derived.Test.YtieiamkcdgppaaaWNEv
import Derived.Test.YtieiamkcdgppaaaWMore
namespace Go.Proofs.Ytieiamkcdgppaaa.PFixRange
open Go.RowKit Go.Proofs.YtieiamkcdgppaaaW.PrintWords Go.Proofs.YtieiamkcdgppaaaW.PrintLast Go.Proofs.YtieiamkcdgppaaaW.PrintMore
attribute [local go_sem] max2_int min2_int max_two min_two max_three min_three max_four min_four   -- for this text's walks alone
set_option linter.unusedVariables false
set_option linter.unusedSimpArgs false



def errW : Option Int → Value
  | none => .nilIface
  | some c => .iface 0 (.int .i64 c)
theorem errW_none : errW none = .nilIface := rfl
theorem errW_some (c : Int) : errW (some c) = .iface 0 (.int .i64 c) := rfl

-- the values' own types

end Go.Proofs.Ytieiamkcdgppaaa.PFixRange
