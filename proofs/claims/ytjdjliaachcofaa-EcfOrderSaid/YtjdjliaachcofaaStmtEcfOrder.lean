-- Written by a program of this session (wip/hprint.py), over the kit's print.py: the walk of one law. Lean checks it.
import Derived.Test.YtjdjliaachcofaaPEcfOrderx6
namespace Go.Proofs.Ytjdjliaachcofaa.PEcfOrder
open Go.RowKit Go.Proofs.YtjdjliaachcofaaW.PrintWords Go.Proofs.YtjdjliaachcofaaW.PrintLast Go.Proofs.YtjdjliaachcofaaW.PrintMore
/-- The plain law: over numbers and lists alone. -/
def fourinhandlaw18_EcfOrder.Pure : Prop := ∀ (l0 : List (S28)) (a1_0 : Bool) (a1_1 : Int) (a1_2 : Int) (a1_3 : Int) (a1_4 : Int) (a2 : Int) (a3 : Int) (a4 : Bool), (l0.length ≤ maxLen ∧ ∀ x ∈ l0, True ∧ (Lit.int .i64 x.f1).wf = true ∧ (Lit.int .i64 x.f2).wf = true ∧ (Lit.int .i64 x.f3).wf = true ∧ (Lit.int .i64 x.f4).wf = true) → (True ∧ (Lit.int .i64 a1_1).wf = true ∧ (Lit.int .i64 a1_2).wf = true ∧ (Lit.int .i64 a1_3).wf = true ∧ (Lit.int .i64 a1_4).wf = true) → ((Lit.int .i64 a2).wf = true) → ((Lit.int .i64 a3).wf = true) → ∃ k, fourinhandlaw18_EcfOrder.f k l0 a1_0 a1_1 a1_2 a1_3 a1_4 a2 a3 a4 = some true
end Go.Proofs.Ytjdjliaachcofaa.PEcfOrder
