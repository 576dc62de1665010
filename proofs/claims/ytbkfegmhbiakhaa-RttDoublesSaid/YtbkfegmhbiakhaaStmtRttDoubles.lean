-- Written by a program of this session (wip/hprint.py), over the kit's print.py: the walk of one law. Lean checks it.
import Derived.Test.YtbkfegmhbiakhaaPRttDoublesx4
namespace Go.Proofs.Ytbkfegmhbiakhaa.PRttDoubles
open Go.RowKit Go.Proofs.YtbkfegmhbiakhaaW.PrintWords Go.Proofs.YtbkfegmhbiakhaaW.PrintLast Go.Proofs.YtbkfegmhbiakhaaW.PrintMore
/-- The plain law: over numbers and lists alone. -/
def fourinhandlaw08_RttDoubles.Pure : Prop := ∀ (a0_0 : Bool) (a0_1 : Int) (a0_2 : Int) (a0_3 : Int) (a0_4 : Int) (a1 : Int), (True ∧ (Lit.int .i64 a0_1).wf = true ∧ (Lit.int .i64 a0_2).wf = true ∧ (Lit.int .i64 a0_3).wf = true ∧ (Lit.int .i64 a0_4).wf = true) → ((Lit.int .i64 a1).wf = true) → ∃ k, fourinhandlaw08_RttDoubles.f k a0_0 a0_1 a0_2 a0_3 a0_4 a1 = some true
end Go.Proofs.Ytbkfegmhbiakhaa.PRttDoubles
