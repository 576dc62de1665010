-- Written by a program of this session (wip/hprint.py), over the kit's print.py: the walk of one law. Lean checks it.
import Derived.Test.YtbkfegmhbiakhaaPRttTellsx7
namespace Go.Proofs.Ytbkfegmhbiakhaa.PRttTells
open Go.RowKit Go.Proofs.YtbkfegmhbiakhaaW.PrintWords Go.Proofs.YtbkfegmhbiakhaaW.PrintLast Go.Proofs.YtbkfegmhbiakhaaW.PrintMore
/-- The plain law: over numbers and lists alone. -/
def fourinhandlaw08_RttTells.Pure : Prop := ∀ (a0_0 : Bool) (a0_1 : Int) (a0_2 : Int) (a0_3 : Int) (a0_4 : Int) (a1 : Int) (a2 : Int) (a3 : Int), (True ∧ (Lit.int .i64 a0_1).wf = true ∧ (Lit.int .i64 a0_2).wf = true ∧ (Lit.int .i64 a0_3).wf = true ∧ (Lit.int .i64 a0_4).wf = true) → ((Lit.int .i64 a1).wf = true) → ((Lit.int .i64 a2).wf = true) → ((Lit.int .i64 a3).wf = true) → ∃ k, fourinhandlaw08_RttTells.f k a0_0 a0_1 a0_2 a0_3 a0_4 a1 a2 a3 = some true
end Go.Proofs.Ytbkfegmhbiakhaa.PRttTells
