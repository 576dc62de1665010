-- Written by a program of this session (wip/hprint.py), over the kit's print.py: the walk of one law. Lean checks it.
import Derived.Test.YtjmblmomeijddaaPVegasAlphasx3
namespace Go.Proofs.Ytjmblmomeijddaa.PVegasAlphas
open Go.RowKit Go.Proofs.YtjmblmomeijddaaW.PrintWords Go.Proofs.YtjmblmomeijddaaW.PrintLast Go.Proofs.YtjmblmomeijddaaW.PrintMore
/-- The plain law: over numbers and lists alone. -/
def fourinhandlaw16_VegasAlphas.Pure : Prop := ∀ (l0 : List (S29)) (a1 : Int), (l0.length ≤ maxLen ∧ ∀ x ∈ l0, (Lit.int .i64 x.f0).wf = true ∧ (Lit.int .i64 x.f1).wf = true) → ((Lit.int .i64 a1).wf = true) → ∃ k, fourinhandlaw16_VegasAlphas.f k l0 a1 = some true
end Go.Proofs.Ytjmblmomeijddaa.PVegasAlphas
