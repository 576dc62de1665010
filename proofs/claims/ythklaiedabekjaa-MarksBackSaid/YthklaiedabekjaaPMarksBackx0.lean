-- Written by a program of this session (wip/hprint.py), over the kit's print.py: the walk of one law. Lean checks it.
import Derived.Test.YthklaiedabekjaaProg
import Derived.Below
import Derived.Deep.Draws
import Derived.Deep.AppendLies
import Derived.Maps.AppendAt
import Derived.OwnWalk
import Derived.Laws.BytesArg
import Derived.Laws.MakeOwn
import Derived.Laws.OwnMore
import Derived.Deep.OwnRows
import Derived.Tactics
import Derived.Lib.ConvBytes
import Derived.Laws.Slices
import Derived.WalkKit
import Derived.KernelRfl
import Derived.RowKit3
import Derived.Deep.LoopGhost
import Derived.Deep.QuietTactic
import Derived.BigQuiet
import Derived.WideLaws
import Derived.Deep.DeepCutAuto
import Derived.Deep.CutBlock
import Derived.Deep.RegionHeld3
import Derived.Laws.Rows
import Derived.Lib.AppendStr
import Derived.ArgAppend
import Derived.Laws.IdiomCopy
import Derived.OrdersHeld
import Derived.Laws.BitsLemmas
import Derived.RowKit
import Derived.Test.YthklaiedabekjaaHand
import Derived.Test.YthklaiedabekjaaWWords
import Derived.Test.YthklaiedabekjaaWLast
import Derived.Test.YthklaiedabekjaaWTab
import Derived.Test.YthklaiedabekjaaWFour
import Derived.Test.YthklaiedabekjaaWQPut
import Derived.Test.YthklaiedabekjaaWApart
import Derived.Test.YthklaiedabekjaaWArr
import Derived.Test.YthklaiedabekjaaWZeros
import Derived.Test.YthklaiedabekjaaWFoot
import Derived.Test.YthklaiedabekjaaWKept
import Derived.Test.YthklaiedabekjaaWShare
import Derived.Test.YthklaiedabekjaaWN
import Derived.Test.YthklaiedabekjaaWFootNe
import Derived.Test.YthklaiedabekjaaWAt
import Derived.Test.YthklaiedabekjaaWEqStruct
import Derived.Test.YthklaiedabekjaaWRepsOne
import Derived.Test.YthklaiedabekjaaWInv
import Derived.Test.YthklaiedabekjaaWInvWords
import Derived.Test.YthklaiedabekjaaWGuard
import Derived.Test.YthklaiedabekjaaWNEv
import Derived.Test.YthklaiedabekjaaWMore
namespace Go.Proofs.Ythklaiedabekjaa.PMarksBack
open Go.RowKit Go.Proofs.YthklaiedabekjaaW.PrintWords Go.Proofs.YthklaiedabekjaaW.PrintLast Go.Proofs.YthklaiedabekjaaW.PrintMore
attribute [local go_sem] max2_int min2_int max_two min_two max_three min_three max_four min_four   -- for this text's walks alone
set_option linter.unusedVariables false
set_option linter.unusedSimpArgs false



def errW : Option Int → Value
  | none => .nilIface
  | some c => .iface 0 (.int .i64 c)
theorem errW_none : errW none = .nilIface := rfl
theorem errW_some (c : Int) : errW (some c) = .iface 0 (.int .i64 c) := rfl

-- the values' own types

end Go.Proofs.Ythklaiedabekjaa.PMarksBack
