-- Written by a program of this session (wip/hprint.py), over the kit's print.py: the walk of one law. Lean checks it.
import Derived.Test.YtjmblmomeijddaaPVegasSettlesx4
namespace Go.Proofs.Ytjmblmomeijddaa.PVegasSettles
open Go.RowKit Go.Proofs.YtjmblmomeijddaaW.PrintWords Go.Proofs.YtjmblmomeijddaaW.PrintLast Go.Proofs.YtjmblmomeijddaaW.PrintMore
/-- The plain law: over numbers and lists alone. -/
def fourinhandlaw16_VegasSettles.Pure : Prop := ∀ (a0_0 : Int) (a0_1 : Int) (a1 : Int) (a2 : Int), ((Lit.int .i64 a0_0).wf = true ∧ (Lit.int .i64 a0_1).wf = true) → ((Lit.int .i64 a1).wf = true) → ((Lit.int .i64 a2).wf = true) → ∃ k, fourinhandlaw16_VegasSettles.f k a0_0 a0_1 a1 a2 = some true
end Go.Proofs.Ytjmblmomeijddaa.PVegasSettles
