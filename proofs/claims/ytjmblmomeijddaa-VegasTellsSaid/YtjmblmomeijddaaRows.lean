/-
  No cell of these rows narrows 'for every input' (looked for: loops, veiled, ifaces, maps, wideKeys, modest, calm, conditions, laid).
  DERIVED. THE GIVEN ROWS OF THIS SEAT. 6 by the template 'for every input the law returns true; each argument reads behind the call as it read before'; 0 by the template 'total and deterministic' (their statements: YtjmblmomeijddaaTotals.lean).
  GIVEN WITH THE SEED: the statements are not yours to turn. If you find one false, say at which input.
  Laid BY PROGRAM, IN A SANDBOX (cutbox-rows.mjs): the forced cells as the released guide's own fill.sh prints them over the translation 93460cd336d12e96… (all of the seat's roots in one cut). By AI agents, Wed Nov 11 2026. No macro, syntax, notation, axiom, sorry.
-/
import Derived.Test.YtjmblmomeijddaaChecked
import GoSem.Claim
import GoSem.ClaimJoined
import GoSem.ClaimMapViews
import Derived.JoinedTies
import Derived.KernelRfl
namespace Go.Proofs.Ytjmblmomeijddaa
/- THE CELL 'sum', in the pinned program and in every row, IS THE sha256 OF THE DUMP (.gsa) THAT YtjmblmomeijddaaProg.lean LOADS. Nothing in Lean hashes anything: it is a label: what it is worth is what the hold of that sum in a sandbox is worth. -/
noncomputable def Try.pinned : Pinned := { name := "ytjmblmomeijddaa", sum := "93460cd336d12e96acc4131c5e646d854e5d0a4b0d4e8d20e6833ad295536b5c", checked := Try.checked }
namespace Rows
def none {H : Type} : Left H := { results := [], args := [] }

/-- 'fourinhandlaw16.VegasAlphas': WHATEVER THE INPUT: true; the input reads as it did. -/
def vegasAlphasSpec : ChangeSpec := { name := "vegasAlphas", fn := fun _ => fun
  | [d1, d2] => { results := [.lit (.bool true)], args := [d1, d2] }
  | _ => none }
def vegasAlphasRow : OpenClaim := { program := "ytjmblmomeijddaa", sum := "93460cd336d12e96acc4131c5e646d854e5d0a4b0d4e8d20e6833ad295536b5c", func := "fourinhand/fourinhandlaw16.VegasAlphas", spec := "vegasAlphas", apart := false }
def VegasAlphasSaid : Prop := vegasAlphasRow.holds Try.pinned (OpenSpec.ofChange vegasAlphasSpec)

/-- ITS FALSE NEIGHBOUR: 'it returns false'. Refute it at one input. -/
def vegasAlphasWrong : ChangeSpec := { name := "vegasAlphas", fn := fun _ => fun
  | [d1, d2] => { results := [.lit (.bool false)], args := [d1, d2] }
  | _ => none }
def VegasAlphasWrongFalsely : Prop := vegasAlphasRow.holds Try.pinned (OpenSpec.ofChange vegasAlphasWrong)

/-- 'fourinhandlaw16.VegasQueue': WHATEVER THE INPUT: true; the input reads as it did. -/
def vegasQueueSpec : ChangeSpec := { name := "vegasQueue", fn := fun _ => fun
  | [d1, d2, d3, d4, d5] => { results := [.lit (.bool true)], args := [d1, d2, d3, d4, d5] }
  | _ => none }
def vegasQueueRow : OpenClaim := { program := "ytjmblmomeijddaa", sum := "93460cd336d12e96acc4131c5e646d854e5d0a4b0d4e8d20e6833ad295536b5c", func := "fourinhand/fourinhandlaw16.VegasQueue", spec := "vegasQueue", apart := false }
def VegasQueueSaid : Prop := vegasQueueRow.holds Try.pinned (OpenSpec.ofChange vegasQueueSpec)

/-- ITS FALSE NEIGHBOUR: 'it returns false'. Refute it at one input. -/
def vegasQueueWrong : ChangeSpec := { name := "vegasQueue", fn := fun _ => fun
  | [d1, d2, d3, d4, d5] => { results := [.lit (.bool false)], args := [d1, d2, d3, d4, d5] }
  | _ => none }
def VegasQueueWrongFalsely : Prop := vegasQueueRow.holds Try.pinned (OpenSpec.ofChange vegasQueueWrong)

/-- 'fourinhandlaw16.VegasShare': WHATEVER THE INPUT: true; the input reads as it did. -/
def vegasShareSpec : ChangeSpec := { name := "vegasShare", fn := fun _ => fun
  | [d1, d2, d3, d4] => { results := [.lit (.bool true)], args := [d1, d2, d3, d4] }
  | _ => none }
def vegasShareRow : OpenClaim := { program := "ytjmblmomeijddaa", sum := "93460cd336d12e96acc4131c5e646d854e5d0a4b0d4e8d20e6833ad295536b5c", func := "fourinhand/fourinhandlaw16.VegasShare", spec := "vegasShare", apart := false }
def VegasShareSaid : Prop := vegasShareRow.holds Try.pinned (OpenSpec.ofChange vegasShareSpec)

/-- ITS FALSE NEIGHBOUR: 'it returns false'. Refute it at one input. -/
def vegasShareWrong : ChangeSpec := { name := "vegasShare", fn := fun _ => fun
  | [d1, d2, d3, d4] => { results := [.lit (.bool false)], args := [d1, d2, d3, d4] }
  | _ => none }
def VegasShareWrongFalsely : Prop := vegasShareRow.holds Try.pinned (OpenSpec.ofChange vegasShareWrong)

/-- 'fourinhandlaw16.VegasTells': WHATEVER THE INPUT: true; the input reads as it did. -/
def vegasTellsSpec : ChangeSpec := { name := "vegasTells", fn := fun _ => fun
  | [d1, d2, d3, d4, d5, d6, d7, d8, d9, d10] => { results := [.lit (.bool true)], args := [d1, d2, d3, d4, d5, d6, d7, d8, d9, d10] }
  | _ => none }
def vegasTellsRow : OpenClaim := { program := "ytjmblmomeijddaa", sum := "93460cd336d12e96acc4131c5e646d854e5d0a4b0d4e8d20e6833ad295536b5c", func := "fourinhand/fourinhandlaw16.VegasTells", spec := "vegasTells", apart := false }
def VegasTellsSaid : Prop := vegasTellsRow.holds Try.pinned (OpenSpec.ofChange vegasTellsSpec)

/-- ITS FALSE NEIGHBOUR: 'it returns false'. Refute it at one input. -/
def vegasTellsWrong : ChangeSpec := { name := "vegasTells", fn := fun _ => fun
  | [d1, d2, d3, d4, d5, d6, d7, d8, d9, d10] => { results := [.lit (.bool false)], args := [d1, d2, d3, d4, d5, d6, d7, d8, d9, d10] }
  | _ => none }
def VegasTellsWrongFalsely : Prop := vegasTellsRow.holds Try.pinned (OpenSpec.ofChange vegasTellsWrong)

/-- 'fourinhandlaw16.VegasBounds': WHATEVER THE INPUT: true; the input reads as it did. -/
def vegasBoundsSpec : ChangeSpec := { name := "vegasBounds", fn := fun _ => fun
  | [d1, d2, d3, d4, d5] => { results := [.lit (.bool true)], args := [d1, d2, d3, d4, d5] }
  | _ => none }
def vegasBoundsRow : OpenClaim := { program := "ytjmblmomeijddaa", sum := "93460cd336d12e96acc4131c5e646d854e5d0a4b0d4e8d20e6833ad295536b5c", func := "fourinhand/fourinhandlaw16.VegasBounds", spec := "vegasBounds", apart := false }
def VegasBoundsSaid : Prop := vegasBoundsRow.holds Try.pinned (OpenSpec.ofChange vegasBoundsSpec)

/-- ITS FALSE NEIGHBOUR: 'it returns false'. Refute it at one input. -/
def vegasBoundsWrong : ChangeSpec := { name := "vegasBounds", fn := fun _ => fun
  | [d1, d2, d3, d4, d5] => { results := [.lit (.bool false)], args := [d1, d2, d3, d4, d5] }
  | _ => none }
def VegasBoundsWrongFalsely : Prop := vegasBoundsRow.holds Try.pinned (OpenSpec.ofChange vegasBoundsWrong)

/-- 'fourinhandlaw16.VegasSettles': WHATEVER THE INPUT: true; the input reads as it did. -/
def vegasSettlesSpec : ChangeSpec := { name := "vegasSettles", fn := fun _ => fun
  | [d1, d2, d3] => { results := [.lit (.bool true)], args := [d1, d2, d3] }
  | _ => none }
def vegasSettlesRow : OpenClaim := { program := "ytjmblmomeijddaa", sum := "93460cd336d12e96acc4131c5e646d854e5d0a4b0d4e8d20e6833ad295536b5c", func := "fourinhand/fourinhandlaw16.VegasSettles", spec := "vegasSettles", apart := false }
def VegasSettlesSaid : Prop := vegasSettlesRow.holds Try.pinned (OpenSpec.ofChange vegasSettlesSpec)

/-- ITS FALSE NEIGHBOUR: 'it returns false'. Refute it at one input. -/
def vegasSettlesWrong : ChangeSpec := { name := "vegasSettles", fn := fun _ => fun
  | [d1, d2, d3] => { results := [.lit (.bool false)], args := [d1, d2, d3] }
  | _ => none }
def VegasSettlesWrongFalsely : Prop := vegasSettlesRow.holds Try.pinned (OpenSpec.ofChange vegasSettlesWrong)

/- THE SECOND FORM. 'bulk': how many values and letters a reading holds, each counted each time it is reached (what is shared counts as often as it is met; a slice's spare places count too). A statement '..UptoSaid' is the law's where the arguments, and the package variables that the reading takes, are together of bulk at most 1048576: NARROWER than '..Said'. Prove '..Said' where nothing that the law and all that it calls make is longer than what came in: it says more and counts as full. Else prove '..UptoSaid'. A law counts once. -/
mutual
def uptoBulk {H : Type} : DataW H → Nat
  | .lit (.string bytes) => bytes.length + 1
  | .lit _ => 1
  | .nil => 1
  | .ptr d => uptoBulk d + 1
  | .slice elems spare => uptoBulkAll elems + uptoBulkAll spare + 1
  | .agg parts => uptoBulkAll parts + 1
  | .iface _ d => uptoBulk d + 1
  | .map entries => uptoBulkEntries entries + 1
  | .held _ => 1
def uptoBulkAll {H : Type} : List (DataW H) → Nat
  | [] => 0
  | d :: r => uptoBulk d + uptoBulkAll r
def uptoBulkEntries {H : Type} : List (Lit × DataW H) → Nat
  | [] => 0
  | x :: r => uptoBulkEntry x + uptoBulkEntries r
def uptoBulkEntry {H : Type} : Lit × DataW H → Nat
  | (.string bytes, d) => bytes.length + uptoBulk d + 1
  | (_, d) => uptoBulk d + 1
 end
def uptoSmall : (H : Type) → List (DataW H) → Bool := fun _ ds => decide (uptoBulkAll ds ≤ 1048576)
def OpenSpec.upto (s : _root_.Go.ChangeSpec) : _root_.Go.OpenSpec := { _root_.Go.OpenSpec.ofChange s with cond := some uptoSmall }

/-- 'fourinhandlaw16.VegasAlphas', WHERE WHAT IT READS IS OF BULK AT MOST 1048576: true; the input reads as it did. -/
def vegasAlphasUptoRow : OpenClaim := { program := "ytjmblmomeijddaa", sum := "93460cd336d12e96acc4131c5e646d854e5d0a4b0d4e8d20e6833ad295536b5c", func := "fourinhand/fourinhandlaw16.VegasAlphas", spec := "vegasAlphas", apart := false, narrowed := true }
def VegasAlphasUptoSaid : Prop := vegasAlphasUptoRow.holds Try.pinned (OpenSpec.upto vegasAlphasSpec)

/-- 'fourinhandlaw16.VegasQueue', WHERE WHAT IT READS IS OF BULK AT MOST 1048576: true; the input reads as it did. -/
def vegasQueueUptoRow : OpenClaim := { program := "ytjmblmomeijddaa", sum := "93460cd336d12e96acc4131c5e646d854e5d0a4b0d4e8d20e6833ad295536b5c", func := "fourinhand/fourinhandlaw16.VegasQueue", spec := "vegasQueue", apart := false, narrowed := true }
def VegasQueueUptoSaid : Prop := vegasQueueUptoRow.holds Try.pinned (OpenSpec.upto vegasQueueSpec)

/-- 'fourinhandlaw16.VegasShare', WHERE WHAT IT READS IS OF BULK AT MOST 1048576: true; the input reads as it did. -/
def vegasShareUptoRow : OpenClaim := { program := "ytjmblmomeijddaa", sum := "93460cd336d12e96acc4131c5e646d854e5d0a4b0d4e8d20e6833ad295536b5c", func := "fourinhand/fourinhandlaw16.VegasShare", spec := "vegasShare", apart := false, narrowed := true }
def VegasShareUptoSaid : Prop := vegasShareUptoRow.holds Try.pinned (OpenSpec.upto vegasShareSpec)

/-- 'fourinhandlaw16.VegasTells', WHERE WHAT IT READS IS OF BULK AT MOST 1048576: true; the input reads as it did. -/
def vegasTellsUptoRow : OpenClaim := { program := "ytjmblmomeijddaa", sum := "93460cd336d12e96acc4131c5e646d854e5d0a4b0d4e8d20e6833ad295536b5c", func := "fourinhand/fourinhandlaw16.VegasTells", spec := "vegasTells", apart := false, narrowed := true }
def VegasTellsUptoSaid : Prop := vegasTellsUptoRow.holds Try.pinned (OpenSpec.upto vegasTellsSpec)

/-- 'fourinhandlaw16.VegasBounds', WHERE WHAT IT READS IS OF BULK AT MOST 1048576: true; the input reads as it did. -/
def vegasBoundsUptoRow : OpenClaim := { program := "ytjmblmomeijddaa", sum := "93460cd336d12e96acc4131c5e646d854e5d0a4b0d4e8d20e6833ad295536b5c", func := "fourinhand/fourinhandlaw16.VegasBounds", spec := "vegasBounds", apart := false, narrowed := true }
def VegasBoundsUptoSaid : Prop := vegasBoundsUptoRow.holds Try.pinned (OpenSpec.upto vegasBoundsSpec)

/-- 'fourinhandlaw16.VegasSettles', WHERE WHAT IT READS IS OF BULK AT MOST 1048576: true; the input reads as it did. -/
def vegasSettlesUptoRow : OpenClaim := { program := "ytjmblmomeijddaa", sum := "93460cd336d12e96acc4131c5e646d854e5d0a4b0d4e8d20e6833ad295536b5c", func := "fourinhand/fourinhandlaw16.VegasSettles", spec := "vegasSettles", apart := false, narrowed := true }
def VegasSettlesUptoSaid : Prop := vegasSettlesUptoRow.holds Try.pinned (OpenSpec.upto vegasSettlesSpec)

end Rows
end Go.Proofs.Ytjmblmomeijddaa
