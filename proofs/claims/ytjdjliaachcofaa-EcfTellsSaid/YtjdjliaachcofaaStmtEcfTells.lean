-- Written by a program of this session (wip/hprint.py), over the kit's print.py: the walk of one law. Lean checks it.
import Derived.Test.YtjdjliaachcofaaPEcfTellsx8
namespace Go.Proofs.Ytjdjliaachcofaa.PEcfTells
open Go.RowKit Go.Proofs.YtjdjliaachcofaaW.PrintWords Go.Proofs.YtjdjliaachcofaaW.PrintLast Go.Proofs.YtjdjliaachcofaaW.PrintMore
/-- The plain law: over numbers and lists alone. -/
def fourinhandlaw18_EcfTells.Pure : Prop := ∀ (l0 : List (S28)) (a1 : Int) (a2 : Int) (a3 : Bool), (l0.length ≤ maxLen ∧ ∀ x ∈ l0, True ∧ (Lit.int .i64 x.f1).wf = true ∧ (Lit.int .i64 x.f2).wf = true ∧ (Lit.int .i64 x.f3).wf = true ∧ (Lit.int .i64 x.f4).wf = true) → ((Lit.int .i64 a1).wf = true) → ((Lit.int .i64 a2).wf = true) → ∃ k, fourinhandlaw18_EcfTells.f k l0 a1 a2 a3 = some true
end Go.Proofs.Ytjdjliaachcofaa.PEcfTells
