-- Written by a program of this session (wip/hprint.py), over the kit's print.py: the walk of one law. Lean checks it.
import Derived.Test.YtdbnhmipbbadjaaPXmpBoundsx3
namespace Go.Proofs.Ytdbnhmipbbadjaa.PXmpBounds
open Go.RowKit Go.Proofs.YtdbnhmipbbadjaaW.PrintWords Go.Proofs.YtdbnhmipbbadjaaW.PrintLast Go.Proofs.YtdbnhmipbbadjaaW.PrintMore
/-- The plain law: over numbers and lists alone. -/
def fourinhandlaw15_XmpBounds.Pure : Prop := ∀ (a0_0 : Int) (a0_1 : Int) (a1 : Int) (a2 : Bool) (a3 : Int) (a4 : Int), ((Lit.int .i64 a0_0).wf = true ∧ (Lit.int .i64 a0_1).wf = true) → ((Lit.int .i64 a1).wf = true) → ((Lit.int .i64 a3).wf = true) → ((Lit.int .i64 a4).wf = true) → ∃ k, fourinhandlaw15_XmpBounds.f k a0_0 a0_1 a1 a2 a3 a4 = some true
end Go.Proofs.Ytdbnhmipbbadjaa.PXmpBounds
