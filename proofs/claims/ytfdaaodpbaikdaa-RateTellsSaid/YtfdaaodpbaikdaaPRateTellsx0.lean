-- Written by a program of this session (wip/hprint.py), over the kit's print.py: the walk of one law. Lean checks it.
import Derived.Test.YtfdaaodpbaikdaaProg
import Derived.Below
import Derived.Deep.Draws
import Derived.Deep.AppendLies
import Derived.Maps.AppendAt
import Derived.OwnWalk
import Derived.Laws.BytesArg
import Derived.Laws.MakeOwn
import Derived.Laws.OwnMore
import Derived.Deep.OwnRows
import Derived.Tactics
import Derived.Lib.ConvBytes
import Derived.Laws.Slices
import Derived.WalkKit
import Derived.KernelRfl
import Derived.RowKit3
import Derived.Deep.LoopGhost
import Derived.Deep.QuietTactic
import Derived.BigQuiet
import Derived.WideLaws
import Derived.Deep.DeepCutAuto
import Derived.Deep.CutBlock
import Derived.Deep.RegionHeld3
import Derived.Laws.Rows
import Derived.Lib.AppendStr
import Derived.ArgAppend
import Derived.Laws.IdiomCopy
import Derived.OrdersHeld
import Derived.Laws.BitsLemmas
import Derived.RowKit
import Derived.Test.YtfdaaodpbaikdaaWWords
import Derived.Test.YtfdaaodpbaikdaaWLast
import Derived.Test.YtfdaaodpbaikdaaWTab
import Derived.Test.YtfdaaodpbaikdaaWFour
import Derived.Test.YtfdaaodpbaikdaaWQPut
import Derived.Test.YtfdaaodpbaikdaaWApart
import Derived.Test.YtfdaaodpbaikdaaWArr
import Derived.Test.YtfdaaodpbaikdaaWZeros
import Derived.Test.YtfdaaodpbaikdaaWFoot
import Derived.Test.YtfdaaodpbaikdaaWKept
import Derived.Test.YtfdaaodpbaikdaaWShare
import Derived.Test.YtfdaaodpbaikdaaWN
import Derived.Test.YtfdaaodpbaikdaaWFootNe
import Derived.Test.YtfdaaodpbaikdaaWAt
import Derived.Test.YtfdaaodpbaikdaaWEqStruct
import Derived.Test.YtfdaaodpbaikdaaWRepsOne
import Derived.Test.YtfdaaodpbaikdaaWInv
import Derived.Test.YtfdaaodpbaikdaaWInvWords
import Derived.Test.YtfdaaodpbaikdaaWGuard
import Derived.Test.YtfdaaodpbaikdaaWNEv
import Derived.Test.YtfdaaodpbaikdaaWMore
namespace Go.Proofs.Ytfdaaodpbaikdaa.PRateTells
open Go.RowKit Go.Proofs.YtfdaaodpbaikdaaW.PrintWords Go.Proofs.YtfdaaodpbaikdaaW.PrintLast Go.Proofs.YtfdaaodpbaikdaaW.PrintMore
attribute [local go_sem] max2_int min2_int max_two min_two max_three min_three max_four min_four   -- for this text's walks alone
set_option linter.unusedVariables false
set_option linter.unusedSimpArgs false



def errW : Option Int → Value
  | none => .nilIface
  | some c => .iface 0 (.int .i64 c)
theorem errW_none : errW none = .nilIface := rfl
theorem errW_some (c : Int) : errW (some c) = .iface 0 (.int .i64 c) := rfl

theorem info3 : (Try.prog.info? 3).map (fun i => (i.zero, i.size, i.bytes)) = some (some (.int .i64 0), 1, 8) := by kernel_rfl
-- the values' own types

end Go.Proofs.Ytfdaaodpbaikdaa.PRateTells
