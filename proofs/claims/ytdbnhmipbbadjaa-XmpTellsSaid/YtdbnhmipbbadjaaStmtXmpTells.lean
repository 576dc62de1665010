-- Written by a program of this session (wip/hprint.py), over the kit's print.py: the walk of one law. Lean checks it.
import Derived.Test.YtdbnhmipbbadjaaPXmpTellsx6
namespace Go.Proofs.Ytdbnhmipbbadjaa.PXmpTells
open Go.RowKit Go.Proofs.YtdbnhmipbbadjaaW.PrintWords Go.Proofs.YtdbnhmipbbadjaaW.PrintLast Go.Proofs.YtdbnhmipbbadjaaW.PrintMore
/-- The plain law: over numbers and lists alone. -/
def fourinhandlaw15_XmpTells.Pure : Prop := ∀ (a0_0 : Int) (a0_1 : Int) (l1 : List (S26)) (a2 : Int) (a3 : Int) (a4 : Bool) (a5 : Int) (a6 : Int), ((Lit.int .i64 a0_0).wf = true ∧ (Lit.int .i64 a0_1).wf = true) → (l1.length ≤ maxLen ∧ ∀ x ∈ l1, (Lit.int .i64 x.f0).wf = true ∧ (Lit.int .i64 x.f1).wf = true) → ((Lit.int .i64 a2).wf = true) → ((Lit.int .i64 a3).wf = true) → ((Lit.int .i64 a5).wf = true) → ((Lit.int .i64 a6).wf = true) → ∃ k, fourinhandlaw15_XmpTells.f k a0_0 a0_1 l1 a2 a3 a4 a5 a6 = some true
end Go.Proofs.Ytdbnhmipbbadjaa.PXmpTells
