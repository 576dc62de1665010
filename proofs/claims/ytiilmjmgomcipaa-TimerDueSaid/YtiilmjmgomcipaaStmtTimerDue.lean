-- Written by a program of this session (wip/hprint.py), over the kit's print.py: the walk of one law. Lean checks it.
import Derived.Test.YtiilmjmgomcipaaPTimerDuex7
namespace Go.Proofs.Ytiilmjmgomcipaa.PTimerDue
open Go.RowKit Go.Proofs.YtiilmjmgomcipaaW.PrintWords Go.Proofs.YtiilmjmgomcipaaW.PrintLast Go.Proofs.YtiilmjmgomcipaaW.PrintMore
/-- The plain law: over numbers and lists alone. -/
def fourinhandlaw14_TimerDue.Pure : Prop := ∀ (l0 : List (S27)) (a1 : Int), (l0.length ≤ maxLen ∧ ∀ x ∈ l0, (Lit.int .i64 x.f0).wf = true ∧ (Lit.int .i64 x.f1).wf = true) → ((Lit.int .i64 a1).wf = true) → ∃ k, fourinhandlaw14_TimerDue.f k l0 a1 = some true
end Go.Proofs.Ytiilmjmgomcipaa.PTimerDue
