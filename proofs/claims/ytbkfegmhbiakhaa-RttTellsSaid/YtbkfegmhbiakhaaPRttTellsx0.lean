-- Written by a program of this session (wip/hprint.py), over the kit's print.py: the walk of one law. Lean checks it.
import Derived.Test.YtbkfegmhbiakhaaProg
import Derived.Below
import Derived.Deep.Draws
import Derived.Deep.AppendLies
import Derived.Maps.AppendAt
import Derived.OwnWalk
import Derived.Laws.BytesArg
import Derived.Laws.MakeOwn
import Derived.Laws.OwnMore
import Derived.Deep.OwnRows
import Derived.Tactics
import Derived.Lib.ConvBytes
import Derived.Laws.Slices
import Derived.WalkKit
import Derived.KernelRfl
import Derived.RowKit3
import Derived.Deep.LoopGhost
import Derived.Deep.QuietTactic
import Derived.BigQuiet
import Derived.WideLaws
import Derived.Deep.DeepCutAuto
import Derived.Deep.CutBlock
import Derived.Deep.RegionHeld3
import Derived.Laws.Rows
import Derived.Lib.AppendStr
import Derived.ArgAppend
import Derived.Laws.IdiomCopy
import Derived.OrdersHeld
import Derived.Laws.BitsLemmas
import Derived.RowKit
import Derived.Test.YtbkfegmhbiakhaaWWords
import Derived.Test.YtbkfegmhbiakhaaWLast
import Derived.Test.YtbkfegmhbiakhaaWTab
import Derived.Test.YtbkfegmhbiakhaaWFour
import Derived.Test.YtbkfegmhbiakhaaWQPut
import Derived.Test.YtbkfegmhbiakhaaWApart
import Derived.Test.YtbkfegmhbiakhaaWArr
import Derived.Test.YtbkfegmhbiakhaaWZeros
import Derived.Test.YtbkfegmhbiakhaaWFoot
import Derived.Test.YtbkfegmhbiakhaaWKept
import Derived.Test.YtbkfegmhbiakhaaWShare
import Derived.Test.YtbkfegmhbiakhaaWN
import Derived.Test.YtbkfegmhbiakhaaWFootNe
import Derived.Test.YtbkfegmhbiakhaaWAt
import Derived.Test.YtbkfegmhbiakhaaWEqStruct
import Derived.Test.YtbkfegmhbiakhaaWRepsOne
import Derived.Test.YtbkfegmhbiakhaaWInv
import Derived.Test.YtbkfegmhbiakhaaWInvWords
import Derived.Test.YtbkfegmhbiakhaaWGuard
import Derived.Test.YtbkfegmhbiakhaaWNEv
import Derived.Test.YtbkfegmhbiakhaaWMore
namespace Go.Proofs.Ytbkfegmhbiakhaa.PRttTells
open Go.RowKit Go.Proofs.YtbkfegmhbiakhaaW.PrintWords Go.Proofs.YtbkfegmhbiakhaaW.PrintLast Go.Proofs.YtbkfegmhbiakhaaW.PrintMore
attribute [local go_sem] max2_int min2_int max_two min_two max_three min_three max_four min_four   -- for this text's walks alone
set_option linter.unusedVariables false
set_option linter.unusedSimpArgs false



def errW : Option Int → Value
  | none => .nilIface
  | some c => .iface 0 (.int .i64 c)
theorem errW_none : errW none = .nilIface := rfl
theorem errW_some (c : Int) : errW (some c) = .iface 0 (.int .i64 c) := rfl

-- the values' own types

end Go.Proofs.Ytbkfegmhbiakhaa.PRttTells
