-- Written by a program of this session (wip/hprint.py), over the kit's print.py: the walk of one law. Lean checks it.
import Derived.Test.YtdbnhmipbbadjaaPXmpSharex3
namespace Go.Proofs.Ytdbnhmipbbadjaa.PXmpShare
open Go.RowKit Go.Proofs.YtdbnhmipbbadjaaW.PrintWords Go.Proofs.YtdbnhmipbbadjaaW.PrintLast Go.Proofs.YtdbnhmipbbadjaaW.PrintMore
/-- The plain law: over numbers and lists alone. -/
def fourinhandlaw15_XmpShare.Pure : Prop := ∀ (l0 : List (S26)) (a1 : Int) (a2 : Int) (a3 : Int), (l0.length ≤ maxLen ∧ ∀ x ∈ l0, (Lit.int .i64 x.f0).wf = true ∧ (Lit.int .i64 x.f1).wf = true) → ((Lit.int .i64 a1).wf = true) → ((Lit.int .i64 a2).wf = true) → ((Lit.int .i64 a3).wf = true) → ∃ k, fourinhandlaw15_XmpShare.f k l0 a1 a2 a3 = some true
end Go.Proofs.Ytdbnhmipbbadjaa.PXmpShare
