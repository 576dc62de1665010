/-
  No cell of these rows narrows 'for every input' (looked for: loops, veiled, ifaces, maps, wideKeys, modest, calm, conditions, laid).
  DERIVED. THE GIVEN ROWS OF THIS SEAT. 6 by the template 'for every input the law returns true; each argument reads behind the call as it read before'; 0 by the template 'total and deterministic' (their statements: YtbkfegmhbiakhaaTotals.lean).
  GIVEN WITH THE SEED: the statements are not yours to turn. If you find one false, say at which input.
  Laid BY PROGRAM, IN A SANDBOX (cutbox-rows.mjs): the forced cells as the released guide's own fill.sh prints them over the translation bb38cea54ab91dfd… (all of the seat's roots in one cut). By AI agents, Wed Nov 11 2026. No macro, syntax, notation, axiom, sorry.
-/
import Derived.Test.YtbkfegmhbiakhaaChecked
import GoSem.Claim
import GoSem.ClaimJoined
import GoSem.ClaimMapViews
import Derived.JoinedTies
import Derived.KernelRfl
namespace Go.Proofs.Ytbkfegmhbiakhaa
/- THE CELL 'sum', in the pinned program and in every row, IS THE sha256 OF THE DUMP (.gsa) THAT YtbkfegmhbiakhaaProg.lean LOADS. Nothing in Lean hashes anything: it is a label: what it is worth is what the hold of that sum in a sandbox is worth. -/
noncomputable def Try.pinned : Pinned := { name := "ytbkfegmhbiakhaa", sum := "bb38cea54ab91dfd630e02006c9f21f4fe9fbda08d017c8a95697bb06b9c4650", checked := Try.checked }
namespace Rows
def none {H : Type} : Left H := { results := [], args := [] }

/-- 'fourinhandlaw08.RttBetween': WHATEVER THE INPUT: true; the input reads as it did. -/
def rttBetweenSpec : ChangeSpec := { name := "rttBetween", fn := fun _ => fun
  | [d1, d2, d3, d4] => { results := [.lit (.bool true)], args := [d1, d2, d3, d4] }
  | _ => none }
def rttBetweenRow : OpenClaim := { program := "ytbkfegmhbiakhaa", sum := "bb38cea54ab91dfd630e02006c9f21f4fe9fbda08d017c8a95697bb06b9c4650", func := "fourinhand/fourinhandlaw08.RttBetween", spec := "rttBetween", unfollowed := true, recurses := true, apart := false }
def RttBetweenSaid : Prop := rttBetweenRow.holds Try.pinned (OpenSpec.ofChange rttBetweenSpec)

/-- ITS FALSE NEIGHBOUR: 'it returns false'. Refute it at one input. -/
def rttBetweenWrong : ChangeSpec := { name := "rttBetween", fn := fun _ => fun
  | [d1, d2, d3, d4] => { results := [.lit (.bool false)], args := [d1, d2, d3, d4] }
  | _ => none }
def RttBetweenWrongFalsely : Prop := rttBetweenRow.holds Try.pinned (OpenSpec.ofChange rttBetweenWrong)

/-- 'fourinhandlaw08.RttSteady': WHATEVER THE INPUT: true; the input reads as it did. -/
def rttSteadySpec : ChangeSpec := { name := "rttSteady", fn := fun _ => fun
  | [d1, d2] => { results := [.lit (.bool true)], args := [d1, d2] }
  | _ => none }
def rttSteadyRow : OpenClaim := { program := "ytbkfegmhbiakhaa", sum := "bb38cea54ab91dfd630e02006c9f21f4fe9fbda08d017c8a95697bb06b9c4650", func := "fourinhand/fourinhandlaw08.RttSteady", spec := "rttSteady", unfollowed := true, recurses := true, apart := false }
def RttSteadySaid : Prop := rttSteadyRow.holds Try.pinned (OpenSpec.ofChange rttSteadySpec)

/-- ITS FALSE NEIGHBOUR: 'it returns false'. Refute it at one input. -/
def rttSteadyWrong : ChangeSpec := { name := "rttSteady", fn := fun _ => fun
  | [d1, d2] => { results := [.lit (.bool false)], args := [d1, d2] }
  | _ => none }
def RttSteadyWrongFalsely : Prop := rttSteadyRow.holds Try.pinned (OpenSpec.ofChange rttSteadyWrong)

/-- 'fourinhandlaw08.RttWrong': WHATEVER THE INPUT: true; the input reads as it did. -/
def rttWrongSpec : ChangeSpec := { name := "rttWrong", fn := fun _ => fun
  | [d1, d2, d3, d4] => { results := [.lit (.bool true)], args := [d1, d2, d3, d4] }
  | _ => none }
def rttWrongRow : OpenClaim := { program := "ytbkfegmhbiakhaa", sum := "bb38cea54ab91dfd630e02006c9f21f4fe9fbda08d017c8a95697bb06b9c4650", func := "fourinhand/fourinhandlaw08.RttWrong", spec := "rttWrong", unfollowed := true, recurses := true, apart := false }
def RttWrongSaid : Prop := rttWrongRow.holds Try.pinned (OpenSpec.ofChange rttWrongSpec)

/-- ITS FALSE NEIGHBOUR: 'it returns false'. Refute it at one input. -/
def rttWrongWrong : ChangeSpec := { name := "rttWrong", fn := fun _ => fun
  | [d1, d2, d3, d4] => { results := [.lit (.bool false)], args := [d1, d2, d3, d4] }
  | _ => none }
def RttWrongWrongFalsely : Prop := rttWrongRow.holds Try.pinned (OpenSpec.ofChange rttWrongWrong)

/-- 'fourinhandlaw08.RttOrder': WHATEVER THE INPUT: true; the input reads as it did. -/
def rttOrderSpec : ChangeSpec := { name := "rttOrder", fn := fun _ => fun
  | [d1, d2, d3, d4] => { results := [.lit (.bool true)], args := [d1, d2, d3, d4] }
  | _ => none }
def rttOrderRow : OpenClaim := { program := "ytbkfegmhbiakhaa", sum := "bb38cea54ab91dfd630e02006c9f21f4fe9fbda08d017c8a95697bb06b9c4650", func := "fourinhand/fourinhandlaw08.RttOrder", spec := "rttOrder", unfollowed := true, recurses := true, apart := false }
def RttOrderSaid : Prop := rttOrderRow.holds Try.pinned (OpenSpec.ofChange rttOrderSpec)

/-- ITS FALSE NEIGHBOUR: 'it returns false'. Refute it at one input. -/
def rttOrderWrong : ChangeSpec := { name := "rttOrder", fn := fun _ => fun
  | [d1, d2, d3, d4] => { results := [.lit (.bool false)], args := [d1, d2, d3, d4] }
  | _ => none }
def RttOrderWrongFalsely : Prop := rttOrderRow.holds Try.pinned (OpenSpec.ofChange rttOrderWrong)

/-- 'fourinhandlaw08.RttTells': WHATEVER THE INPUT: true; the input reads as it did. -/
def rttTellsSpec : ChangeSpec := { name := "rttTells", fn := fun _ => fun
  | [d1, d2, d3, d4] => { results := [.lit (.bool true)], args := [d1, d2, d3, d4] }
  | _ => none }
def rttTellsRow : OpenClaim := { program := "ytbkfegmhbiakhaa", sum := "bb38cea54ab91dfd630e02006c9f21f4fe9fbda08d017c8a95697bb06b9c4650", func := "fourinhand/fourinhandlaw08.RttTells", spec := "rttTells", unfollowed := true, recurses := true, apart := false }
def RttTellsSaid : Prop := rttTellsRow.holds Try.pinned (OpenSpec.ofChange rttTellsSpec)

/-- ITS FALSE NEIGHBOUR: 'it returns false'. Refute it at one input. -/
def rttTellsWrong : ChangeSpec := { name := "rttTells", fn := fun _ => fun
  | [d1, d2, d3, d4] => { results := [.lit (.bool false)], args := [d1, d2, d3, d4] }
  | _ => none }
def RttTellsWrongFalsely : Prop := rttTellsRow.holds Try.pinned (OpenSpec.ofChange rttTellsWrong)

/-- 'fourinhandlaw08.RttDoubles': WHATEVER THE INPUT: true; the input reads as it did. -/
def rttDoublesSpec : ChangeSpec := { name := "rttDoubles", fn := fun _ => fun
  | [d1, d2] => { results := [.lit (.bool true)], args := [d1, d2] }
  | _ => none }
def rttDoublesRow : OpenClaim := { program := "ytbkfegmhbiakhaa", sum := "bb38cea54ab91dfd630e02006c9f21f4fe9fbda08d017c8a95697bb06b9c4650", func := "fourinhand/fourinhandlaw08.RttDoubles", spec := "rttDoubles", unfollowed := true, recurses := true, apart := false }
def RttDoublesSaid : Prop := rttDoublesRow.holds Try.pinned (OpenSpec.ofChange rttDoublesSpec)

/-- ITS FALSE NEIGHBOUR: 'it returns false'. Refute it at one input. -/
def rttDoublesWrong : ChangeSpec := { name := "rttDoubles", fn := fun _ => fun
  | [d1, d2] => { results := [.lit (.bool false)], args := [d1, d2] }
  | _ => none }
def RttDoublesWrongFalsely : Prop := rttDoublesRow.holds Try.pinned (OpenSpec.ofChange rttDoublesWrong)

/- THE SECOND FORM. 'bulk': how many values and letters a reading holds, each counted each time it is reached (what is shared counts as often as it is met; a slice's spare places count too). A statement '..UptoSaid' is the law's where the arguments, and the package variables that the reading takes, are together of bulk at most 1048576: NARROWER than '..Said'. Prove '..Said' where nothing that the law and all that it calls make is longer than what came in: it says more and counts as full. Else prove '..UptoSaid'. A law counts once. -/
mutual
def uptoBulk {H : Type} : DataW H → Nat
  | .lit (.string bytes) => bytes.length + 1
  | .lit _ => 1
  | .nil => 1
  | .ptr d => uptoBulk d + 1
  | .slice elems spare => uptoBulkAll elems + uptoBulkAll spare + 1
  | .agg parts => uptoBulkAll parts + 1
  | .iface _ d => uptoBulk d + 1
  | .map entries => uptoBulkEntries entries + 1
  | .held _ => 1
def uptoBulkAll {H : Type} : List (DataW H) → Nat
  | [] => 0
  | d :: r => uptoBulk d + uptoBulkAll r
def uptoBulkEntries {H : Type} : List (Lit × DataW H) → Nat
  | [] => 0
  | x :: r => uptoBulkEntry x + uptoBulkEntries r
def uptoBulkEntry {H : Type} : Lit × DataW H → Nat
  | (.string bytes, d) => bytes.length + uptoBulk d + 1
  | (_, d) => uptoBulk d + 1
 end
def uptoSmall : (H : Type) → List (DataW H) → Bool := fun _ ds => decide (uptoBulkAll ds ≤ 1048576)
def OpenSpec.upto (s : _root_.Go.ChangeSpec) : _root_.Go.OpenSpec := { _root_.Go.OpenSpec.ofChange s with cond := some uptoSmall }

/-- 'fourinhandlaw08.RttBetween', WHERE WHAT IT READS IS OF BULK AT MOST 1048576: true; the input reads as it did. -/
def rttBetweenUptoRow : OpenClaim := { program := "ytbkfegmhbiakhaa", sum := "bb38cea54ab91dfd630e02006c9f21f4fe9fbda08d017c8a95697bb06b9c4650", func := "fourinhand/fourinhandlaw08.RttBetween", spec := "rttBetween", unfollowed := true, recurses := true, apart := false, narrowed := true }
def RttBetweenUptoSaid : Prop := rttBetweenUptoRow.holds Try.pinned (OpenSpec.upto rttBetweenSpec)

/-- 'fourinhandlaw08.RttSteady', WHERE WHAT IT READS IS OF BULK AT MOST 1048576: true; the input reads as it did. -/
def rttSteadyUptoRow : OpenClaim := { program := "ytbkfegmhbiakhaa", sum := "bb38cea54ab91dfd630e02006c9f21f4fe9fbda08d017c8a95697bb06b9c4650", func := "fourinhand/fourinhandlaw08.RttSteady", spec := "rttSteady", unfollowed := true, recurses := true, apart := false, narrowed := true }
def RttSteadyUptoSaid : Prop := rttSteadyUptoRow.holds Try.pinned (OpenSpec.upto rttSteadySpec)

/-- 'fourinhandlaw08.RttWrong', WHERE WHAT IT READS IS OF BULK AT MOST 1048576: true; the input reads as it did. -/
def rttWrongUptoRow : OpenClaim := { program := "ytbkfegmhbiakhaa", sum := "bb38cea54ab91dfd630e02006c9f21f4fe9fbda08d017c8a95697bb06b9c4650", func := "fourinhand/fourinhandlaw08.RttWrong", spec := "rttWrong", unfollowed := true, recurses := true, apart := false, narrowed := true }
def RttWrongUptoSaid : Prop := rttWrongUptoRow.holds Try.pinned (OpenSpec.upto rttWrongSpec)

/-- 'fourinhandlaw08.RttOrder', WHERE WHAT IT READS IS OF BULK AT MOST 1048576: true; the input reads as it did. -/
def rttOrderUptoRow : OpenClaim := { program := "ytbkfegmhbiakhaa", sum := "bb38cea54ab91dfd630e02006c9f21f4fe9fbda08d017c8a95697bb06b9c4650", func := "fourinhand/fourinhandlaw08.RttOrder", spec := "rttOrder", unfollowed := true, recurses := true, apart := false, narrowed := true }
def RttOrderUptoSaid : Prop := rttOrderUptoRow.holds Try.pinned (OpenSpec.upto rttOrderSpec)

/-- 'fourinhandlaw08.RttTells', WHERE WHAT IT READS IS OF BULK AT MOST 1048576: true; the input reads as it did. -/
def rttTellsUptoRow : OpenClaim := { program := "ytbkfegmhbiakhaa", sum := "bb38cea54ab91dfd630e02006c9f21f4fe9fbda08d017c8a95697bb06b9c4650", func := "fourinhand/fourinhandlaw08.RttTells", spec := "rttTells", unfollowed := true, recurses := true, apart := false, narrowed := true }
def RttTellsUptoSaid : Prop := rttTellsUptoRow.holds Try.pinned (OpenSpec.upto rttTellsSpec)

/-- 'fourinhandlaw08.RttDoubles', WHERE WHAT IT READS IS OF BULK AT MOST 1048576: true; the input reads as it did. -/
def rttDoublesUptoRow : OpenClaim := { program := "ytbkfegmhbiakhaa", sum := "bb38cea54ab91dfd630e02006c9f21f4fe9fbda08d017c8a95697bb06b9c4650", func := "fourinhand/fourinhandlaw08.RttDoubles", spec := "rttDoubles", unfollowed := true, recurses := true, apart := false, narrowed := true }
def RttDoublesUptoSaid : Prop := rttDoublesUptoRow.holds Try.pinned (OpenSpec.upto rttDoublesSpec)

end Rows
end Go.Proofs.Ytbkfegmhbiakhaa
