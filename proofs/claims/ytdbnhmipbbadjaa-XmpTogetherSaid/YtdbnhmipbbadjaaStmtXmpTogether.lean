-- Written by a program of this session (wip/hprint.py), over the kit's print.py: the walk of one law. Lean checks it.
import Derived.Test.YtdbnhmipbbadjaaPXmpTogetherx4
namespace Go.Proofs.Ytdbnhmipbbadjaa.PXmpTogether
open Go.RowKit Go.Proofs.YtdbnhmipbbadjaaW.PrintWords Go.Proofs.YtdbnhmipbbadjaaW.PrintLast Go.Proofs.YtdbnhmipbbadjaaW.PrintMore
/-- The plain law: over numbers and lists alone. -/
def fourinhandlaw15_XmpTogether.Pure : Prop := ∀ (l0 : List (S26)) (a1 : Int), (l0.length ≤ maxLen ∧ ∀ x ∈ l0, (Lit.int .i64 x.f0).wf = true ∧ (Lit.int .i64 x.f1).wf = true) → ((Lit.int .i64 a1).wf = true) → ∃ k, fourinhandlaw15_XmpTogether.f k l0 a1 = some true
end Go.Proofs.Ytdbnhmipbbadjaa.PXmpTogether
