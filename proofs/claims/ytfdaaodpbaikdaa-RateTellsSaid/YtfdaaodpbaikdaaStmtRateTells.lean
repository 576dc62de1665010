-- Written by a program of this session (wip/hprint.py), over the kit's print.py: the walk of one law. Lean checks it.
import Derived.Test.YtfdaaodpbaikdaaPRateTellsx7
namespace Go.Proofs.Ytfdaaodpbaikdaa.PRateTells
open Go.RowKit Go.Proofs.YtfdaaodpbaikdaaW.PrintWords Go.Proofs.YtfdaaodpbaikdaaW.PrintLast Go.Proofs.YtfdaaodpbaikdaaW.PrintMore
/-- The plain law: over numbers and lists alone. -/
def fourinhandlaw11_RateTells.Pure : Prop := ∀ (a0_0 : Int) (a0_1 : Int) (l0_2 : List Int) (a1 : Int) (a2 : Int) (a3 : Int) (a4 : Int), ((Lit.int .i64 a0_0).wf = true ∧ (Lit.int .i64 a0_1).wf = true ∧ (l0_2.length ≤ maxLen ∧ ∀ x ∈ l0_2, (Lit.int .i64 x).wf = true)) → ((Lit.int .i64 a1).wf = true) → ((Lit.int .i64 a2).wf = true) → ((Lit.int .i64 a3).wf = true) → ((Lit.int .i64 a4).wf = true) → ∃ k, fourinhandlaw11_RateTells.f k a0_0 a0_1 l0_2 a1 a2 a3 a4 = some true
end Go.Proofs.Ytfdaaodpbaikdaa.PRateTells
