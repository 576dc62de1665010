-- Written by a program of this session (wip/hprint.py), over the kit's print.py: the walk of one law. Lean checks it.
import Derived.Test.YthklaiedabekjaaPMarksBackx4
namespace Go.Proofs.Ythklaiedabekjaa.PMarksBack
open Go.RowKit Go.Proofs.YthklaiedabekjaaW.PrintWords Go.Proofs.YthklaiedabekjaaW.PrintLast Go.Proofs.YthklaiedabekjaaW.PrintMore
/-- The plain law: over numbers and lists alone. -/
def fourinhandlaw10_MarksBack.Pure : Prop := ∀ (a0_0 : Int) (a0_1 : Int) (a0_2 : Int) (a0_3 : Int) (a0_4 : Int) (a1 : Int) (a2 : Int) (a3 : Int), ((Lit.int .i64 a0_0).wf = true ∧ (Lit.int .i64 a0_1).wf = true ∧ (Lit.int .i64 a0_2).wf = true ∧ (Lit.int .i64 a0_3).wf = true ∧ (Lit.int .i64 a0_4).wf = true) → ((Lit.int .i64 a1).wf = true) → ((Lit.int .i64 a2).wf = true) → ((Lit.int .i64 a3).wf = true) → ∃ k, fourinhandlaw10_MarksBack.f k a0_0 a0_1 a0_2 a0_3 a0_4 a1 a2 a3 = some true
end Go.Proofs.Ythklaiedabekjaa.PMarksBack
