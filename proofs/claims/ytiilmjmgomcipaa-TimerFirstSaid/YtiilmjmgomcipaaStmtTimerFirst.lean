-- Written by a program of this session (wip/hprint.py), over the kit's print.py: the walk of one law. Lean checks it.
import Derived.Test.YtiilmjmgomcipaaPTimerFirstx7
namespace Go.Proofs.Ytiilmjmgomcipaa.PTimerFirst
open Go.RowKit Go.Proofs.YtiilmjmgomcipaaW.PrintWords Go.Proofs.YtiilmjmgomcipaaW.PrintLast Go.Proofs.YtiilmjmgomcipaaW.PrintMore
/-- The plain law: over numbers and lists alone. -/
def fourinhandlaw14_TimerFirst.Pure : Prop := ∀ (l0 : List (S27)) (l1 : List (S27)), (l0.length ≤ maxLen ∧ ∀ x ∈ l0, (Lit.int .i64 x.f0).wf = true ∧ (Lit.int .i64 x.f1).wf = true) → (l1.length ≤ maxLen ∧ ∀ x ∈ l1, (Lit.int .i64 x.f0).wf = true ∧ (Lit.int .i64 x.f1).wf = true) → ∃ k, fourinhandlaw14_TimerFirst.f k l0 l1 = some true
end Go.Proofs.Ytiilmjmgomcipaa.PTimerFirst
