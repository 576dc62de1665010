-- Written by a program of this session (wip/hprint.py), over the kit's print.py: the walk of one law. Lean checks it.
import Derived.Test.YtjmblmomeijddaaPVegasTellsx6
namespace Go.Proofs.Ytjmblmomeijddaa.PVegasTells
open Go.RowKit Go.Proofs.YtjmblmomeijddaaW.PrintWords Go.Proofs.YtjmblmomeijddaaW.PrintLast Go.Proofs.YtjmblmomeijddaaW.PrintMore
/-- The plain law: over numbers and lists alone. -/
def fourinhandlaw16_VegasTells.Pure : Prop := ∀ (l0 : List (S29)) (a1 : Int) (a2 : Int) (a3_0 : Int) (a3_1 : Int) (a4 : Int) (a5 : Int) (a6 : Int) (a7 : Int) (a8 : Int) (a9 : Int), (l0.length ≤ maxLen ∧ ∀ x ∈ l0, (Lit.int .i64 x.f0).wf = true ∧ (Lit.int .i64 x.f1).wf = true) → ((Lit.int .i64 a1).wf = true) → ((Lit.int .i64 a2).wf = true) → ((Lit.int .i64 a3_0).wf = true ∧ (Lit.int .i64 a3_1).wf = true) → ((Lit.int .i64 a4).wf = true) → ((Lit.int .i64 a5).wf = true) → ((Lit.int .i64 a6).wf = true) → ((Lit.int .i64 a7).wf = true) → ((Lit.int .i64 a8).wf = true) → ((Lit.int .i64 a9).wf = true) → ∃ k, fourinhandlaw16_VegasTells.f k l0 a1 a2 a3_0 a3_1 a4 a5 a6 a7 a8 a9 = some true
end Go.Proofs.Ytjmblmomeijddaa.PVegasTells
