/-
  No cell of these rows narrows 'for every input' (looked for: loops, veiled, ifaces, maps, wideKeys, modest, calm, conditions, laid).
  DERIVED. THE GIVEN ROWS OF THIS SEAT. 8 by the template 'for every input the law returns true; each argument reads behind the call as it read before'; 0 by the template 'total and deterministic' (their statements: YtieiamkcdgppaaaTotals.lean).
  GIVEN WITH THE SEED: the statements are not yours to turn. If you find one false, say at which input.
  Laid BY PROGRAM, IN A SANDBOX (cutbox-rows.mjs): the forced cells as the released guide's own fill.sh prints them over the translation ca261d0992df0f68… (all of the seat's roots in one cut). By AI agents, Wed Nov 11 2026. No macro, syntax, notation, axiom, sorry.
-/
import Derived.Test.YtieiamkcdgppaaaChecked
import GoSem.Claim
import GoSem.ClaimJoined
import GoSem.ClaimMapViews
import Derived.JoinedTies
import Derived.KernelRfl
namespace Go.Proofs.Ytieiamkcdgppaaa
/- THE CELL 'sum', in the pinned program and in every row, IS THE sha256 OF THE DUMP (.gsa) THAT YtieiamkcdgppaaaProg.lean LOADS. Nothing in Lean hashes anything: it is a label: what it is worth is what the hold of that sum in a sandbox is worth. -/
noncomputable def Try.pinned : Pinned := { name := "ytieiamkcdgppaaa", sum := "ca261d0992df0f6816ca8ec5ea6d34b917d81af8b422e9336f4cb0c4f41e7d80", checked := Try.checked }
namespace Rows
def none {H : Type} : Left H := { results := [], args := [] }

/-- 'fourinhandlaw01.FixQuotient': WHATEVER THE INPUT: true; the input reads as it did. -/
def fixQuotientSpec : ChangeSpec := { name := "fixQuotient", fn := fun _ => fun
  | [d1, d2, d3] => { results := [.lit (.bool true)], args := [d1, d2, d3] }
  | _ => none }
def fixQuotientRow : OpenClaim := { program := "ytieiamkcdgppaaa", sum := "ca261d0992df0f6816ca8ec5ea6d34b917d81af8b422e9336f4cb0c4f41e7d80", func := "fourinhand/fourinhandlaw01.FixQuotient", spec := "fixQuotient", apart := false }
def FixQuotientSaid : Prop := fixQuotientRow.holds Try.pinned (OpenSpec.ofChange fixQuotientSpec)

/-- ITS FALSE NEIGHBOUR: 'it returns false'. Refute it at one input. -/
def fixQuotientWrong : ChangeSpec := { name := "fixQuotient", fn := fun _ => fun
  | [d1, d2, d3] => { results := [.lit (.bool false)], args := [d1, d2, d3] }
  | _ => none }
def FixQuotientWrongFalsely : Prop := fixQuotientRow.holds Try.pinned (OpenSpec.ofChange fixQuotientWrong)

/-- 'fourinhandlaw01.FixClamp': WHATEVER THE INPUT: true; the input reads as it did. -/
def fixClampSpec : ChangeSpec := { name := "fixClamp", fn := fun _ => fun
  | [d1, d2, d3] => { results := [.lit (.bool true)], args := [d1, d2, d3] }
  | _ => none }
def fixClampRow : OpenClaim := { program := "ytieiamkcdgppaaa", sum := "ca261d0992df0f6816ca8ec5ea6d34b917d81af8b422e9336f4cb0c4f41e7d80", func := "fourinhand/fourinhandlaw01.FixClamp", spec := "fixClamp", apart := false }
def FixClampSaid : Prop := fixClampRow.holds Try.pinned (OpenSpec.ofChange fixClampSpec)

/-- ITS FALSE NEIGHBOUR: 'it returns false'. Refute it at one input. -/
def fixClampWrong : ChangeSpec := { name := "fixClamp", fn := fun _ => fun
  | [d1, d2, d3] => { results := [.lit (.bool false)], args := [d1, d2, d3] }
  | _ => none }
def FixClampWrongFalsely : Prop := fixClampRow.holds Try.pinned (OpenSpec.ofChange fixClampWrong)

/-- 'fourinhandlaw01.FixOrder': WHATEVER THE INPUT: true; the input reads as it did. -/
def fixOrderSpec : ChangeSpec := { name := "fixOrder", fn := fun _ => fun
  | [d1, d2, d3] => { results := [.lit (.bool true)], args := [d1, d2, d3] }
  | _ => none }
def fixOrderRow : OpenClaim := { program := "ytieiamkcdgppaaa", sum := "ca261d0992df0f6816ca8ec5ea6d34b917d81af8b422e9336f4cb0c4f41e7d80", func := "fourinhand/fourinhandlaw01.FixOrder", spec := "fixOrder", unfollowed := true, recurses := true, apart := false }
def FixOrderSaid : Prop := fixOrderRow.holds Try.pinned (OpenSpec.ofChange fixOrderSpec)

/-- ITS FALSE NEIGHBOUR: 'it returns false'. Refute it at one input. -/
def fixOrderWrong : ChangeSpec := { name := "fixOrder", fn := fun _ => fun
  | [d1, d2, d3] => { results := [.lit (.bool false)], args := [d1, d2, d3] }
  | _ => none }
def FixOrderWrongFalsely : Prop := fixOrderRow.holds Try.pinned (OpenSpec.ofChange fixOrderWrong)

/-- 'fourinhandlaw01.FixSteps': WHATEVER THE INPUT: true; the input reads as it did. -/
def fixStepsSpec : ChangeSpec := { name := "fixSteps", fn := fun _ => fun
  | [d1, d2, d3] => { results := [.lit (.bool true)], args := [d1, d2, d3] }
  | _ => none }
def fixStepsRow : OpenClaim := { program := "ytieiamkcdgppaaa", sum := "ca261d0992df0f6816ca8ec5ea6d34b917d81af8b422e9336f4cb0c4f41e7d80", func := "fourinhand/fourinhandlaw01.FixSteps", spec := "fixSteps", unfollowed := true, recurses := true, apart := false }
def FixStepsSaid : Prop := fixStepsRow.holds Try.pinned (OpenSpec.ofChange fixStepsSpec)

/-- ITS FALSE NEIGHBOUR: 'it returns false'. Refute it at one input. -/
def fixStepsWrong : ChangeSpec := { name := "fixSteps", fn := fun _ => fun
  | [d1, d2, d3] => { results := [.lit (.bool false)], args := [d1, d2, d3] }
  | _ => none }
def FixStepsWrongFalsely : Prop := fixStepsRow.holds Try.pinned (OpenSpec.ofChange fixStepsWrong)

/-- 'fourinhandlaw01.FixRoot': WHATEVER THE INPUT: true; the input reads as it did. -/
def fixRootSpec : ChangeSpec := { name := "fixRoot", fn := fun _ => fun
  | [d] => { results := [.lit (.bool true)], args := [d] }
  | _ => none }
def fixRootRow : OpenClaim := { program := "ytieiamkcdgppaaa", sum := "ca261d0992df0f6816ca8ec5ea6d34b917d81af8b422e9336f4cb0c4f41e7d80", func := "fourinhand/fourinhandlaw01.FixRoot", spec := "fixRoot", apart := false }
def FixRootSaid : Prop := fixRootRow.holds Try.pinned (OpenSpec.ofChange fixRootSpec)

/-- ITS FALSE NEIGHBOUR: 'it returns false'. Refute it at one input. -/
def fixRootWrong : ChangeSpec := { name := "fixRoot", fn := fun _ => fun
  | [d] => { results := [.lit (.bool false)], args := [d] }
  | _ => none }
def FixRootWrongFalsely : Prop := fixRootRow.holds Try.pinned (OpenSpec.ofChange fixRootWrong)

/-- 'fourinhandlaw01.FixAverage': WHATEVER THE INPUT: true; the input reads as it did. -/
def fixAverageSpec : ChangeSpec := { name := "fixAverage", fn := fun _ => fun
  | [d1, d2, d3] => { results := [.lit (.bool true)], args := [d1, d2, d3] }
  | _ => none }
def fixAverageRow : OpenClaim := { program := "ytieiamkcdgppaaa", sum := "ca261d0992df0f6816ca8ec5ea6d34b917d81af8b422e9336f4cb0c4f41e7d80", func := "fourinhand/fourinhandlaw01.FixAverage", spec := "fixAverage", unfollowed := true, recurses := true, apart := false }
def FixAverageSaid : Prop := fixAverageRow.holds Try.pinned (OpenSpec.ofChange fixAverageSpec)

/-- ITS FALSE NEIGHBOUR: 'it returns false'. Refute it at one input. -/
def fixAverageWrong : ChangeSpec := { name := "fixAverage", fn := fun _ => fun
  | [d1, d2, d3] => { results := [.lit (.bool false)], args := [d1, d2, d3] }
  | _ => none }
def FixAverageWrongFalsely : Prop := fixAverageRow.holds Try.pinned (OpenSpec.ofChange fixAverageWrong)

/-- 'fourinhandlaw01.FixRange': WHATEVER THE INPUT: true; the input reads as it did. -/
def fixRangeSpec : ChangeSpec := { name := "fixRange", fn := fun _ => fun
  | [d1, d2, d3] => { results := [.lit (.bool true)], args := [d1, d2, d3] }
  | _ => none }
def fixRangeRow : OpenClaim := { program := "ytieiamkcdgppaaa", sum := "ca261d0992df0f6816ca8ec5ea6d34b917d81af8b422e9336f4cb0c4f41e7d80", func := "fourinhand/fourinhandlaw01.FixRange", spec := "fixRange", unfollowed := true, recurses := true, apart := false }
def FixRangeSaid : Prop := fixRangeRow.holds Try.pinned (OpenSpec.ofChange fixRangeSpec)

/-- ITS FALSE NEIGHBOUR: 'it returns false'. Refute it at one input. -/
def fixRangeWrong : ChangeSpec := { name := "fixRange", fn := fun _ => fun
  | [d1, d2, d3] => { results := [.lit (.bool false)], args := [d1, d2, d3] }
  | _ => none }
def FixRangeWrongFalsely : Prop := fixRangeRow.holds Try.pinned (OpenSpec.ofChange fixRangeWrong)

/-- 'fourinhandlaw01.FixTells': WHATEVER THE INPUT: true; the input reads as it did. -/
def fixTellsSpec : ChangeSpec := { name := "fixTells", fn := fun _ => fun
  | [d1, d2, d3] => { results := [.lit (.bool true)], args := [d1, d2, d3] }
  | _ => none }
def fixTellsRow : OpenClaim := { program := "ytieiamkcdgppaaa", sum := "ca261d0992df0f6816ca8ec5ea6d34b917d81af8b422e9336f4cb0c4f41e7d80", func := "fourinhand/fourinhandlaw01.FixTells", spec := "fixTells", unfollowed := true, recurses := true, apart := false }
def FixTellsSaid : Prop := fixTellsRow.holds Try.pinned (OpenSpec.ofChange fixTellsSpec)

/-- ITS FALSE NEIGHBOUR: 'it returns false'. Refute it at one input. -/
def fixTellsWrong : ChangeSpec := { name := "fixTells", fn := fun _ => fun
  | [d1, d2, d3] => { results := [.lit (.bool false)], args := [d1, d2, d3] }
  | _ => none }
def FixTellsWrongFalsely : Prop := fixTellsRow.holds Try.pinned (OpenSpec.ofChange fixTellsWrong)

/- THE SECOND FORM. 'bulk': how many values and letters a reading holds, each counted each time it is reached (what is shared counts as often as it is met; a slice's spare places count too). A statement '..UptoSaid' is the law's where the arguments, and the package variables that the reading takes, are together of bulk at most 1048576: NARROWER than '..Said'. Prove '..Said' where nothing that the law and all that it calls make is longer than what came in: it says more and counts as full. Else prove '..UptoSaid'. A law counts once. -/
mutual
def uptoBulk {H : Type} : DataW H → Nat
  | .lit (.string bytes) => bytes.length + 1
  | .lit _ => 1
  | .nil => 1
  | .ptr d => uptoBulk d + 1
  | .slice elems spare => uptoBulkAll elems + uptoBulkAll spare + 1
  | .agg parts => uptoBulkAll parts + 1
  | .iface _ d => uptoBulk d + 1
  | .map entries => uptoBulkEntries entries + 1
  | .held _ => 1
def uptoBulkAll {H : Type} : List (DataW H) → Nat
  | [] => 0
  | d :: r => uptoBulk d + uptoBulkAll r
def uptoBulkEntries {H : Type} : List (Lit × DataW H) → Nat
  | [] => 0
  | x :: r => uptoBulkEntry x + uptoBulkEntries r
def uptoBulkEntry {H : Type} : Lit × DataW H → Nat
  | (.string bytes, d) => bytes.length + uptoBulk d + 1
  | (_, d) => uptoBulk d + 1
 end
def uptoSmall : (H : Type) → List (DataW H) → Bool := fun _ ds => decide (uptoBulkAll ds ≤ 1048576)
def OpenSpec.upto (s : _root_.Go.ChangeSpec) : _root_.Go.OpenSpec := { _root_.Go.OpenSpec.ofChange s with cond := some uptoSmall }

/-- 'fourinhandlaw01.FixQuotient', WHERE WHAT IT READS IS OF BULK AT MOST 1048576: true; the input reads as it did. -/
def fixQuotientUptoRow : OpenClaim := { program := "ytieiamkcdgppaaa", sum := "ca261d0992df0f6816ca8ec5ea6d34b917d81af8b422e9336f4cb0c4f41e7d80", func := "fourinhand/fourinhandlaw01.FixQuotient", spec := "fixQuotient", apart := false, narrowed := true }
def FixQuotientUptoSaid : Prop := fixQuotientUptoRow.holds Try.pinned (OpenSpec.upto fixQuotientSpec)

/-- 'fourinhandlaw01.FixClamp', WHERE WHAT IT READS IS OF BULK AT MOST 1048576: true; the input reads as it did. -/
def fixClampUptoRow : OpenClaim := { program := "ytieiamkcdgppaaa", sum := "ca261d0992df0f6816ca8ec5ea6d34b917d81af8b422e9336f4cb0c4f41e7d80", func := "fourinhand/fourinhandlaw01.FixClamp", spec := "fixClamp", apart := false, narrowed := true }
def FixClampUptoSaid : Prop := fixClampUptoRow.holds Try.pinned (OpenSpec.upto fixClampSpec)

/-- 'fourinhandlaw01.FixOrder', WHERE WHAT IT READS IS OF BULK AT MOST 1048576: true; the input reads as it did. -/
def fixOrderUptoRow : OpenClaim := { program := "ytieiamkcdgppaaa", sum := "ca261d0992df0f6816ca8ec5ea6d34b917d81af8b422e9336f4cb0c4f41e7d80", func := "fourinhand/fourinhandlaw01.FixOrder", spec := "fixOrder", unfollowed := true, recurses := true, apart := false, narrowed := true }
def FixOrderUptoSaid : Prop := fixOrderUptoRow.holds Try.pinned (OpenSpec.upto fixOrderSpec)

/-- 'fourinhandlaw01.FixSteps', WHERE WHAT IT READS IS OF BULK AT MOST 1048576: true; the input reads as it did. -/
def fixStepsUptoRow : OpenClaim := { program := "ytieiamkcdgppaaa", sum := "ca261d0992df0f6816ca8ec5ea6d34b917d81af8b422e9336f4cb0c4f41e7d80", func := "fourinhand/fourinhandlaw01.FixSteps", spec := "fixSteps", unfollowed := true, recurses := true, apart := false, narrowed := true }
def FixStepsUptoSaid : Prop := fixStepsUptoRow.holds Try.pinned (OpenSpec.upto fixStepsSpec)

/-- 'fourinhandlaw01.FixRoot', WHERE WHAT IT READS IS OF BULK AT MOST 1048576: true; the input reads as it did. -/
def fixRootUptoRow : OpenClaim := { program := "ytieiamkcdgppaaa", sum := "ca261d0992df0f6816ca8ec5ea6d34b917d81af8b422e9336f4cb0c4f41e7d80", func := "fourinhand/fourinhandlaw01.FixRoot", spec := "fixRoot", apart := false, narrowed := true }
def FixRootUptoSaid : Prop := fixRootUptoRow.holds Try.pinned (OpenSpec.upto fixRootSpec)

/-- 'fourinhandlaw01.FixAverage', WHERE WHAT IT READS IS OF BULK AT MOST 1048576: true; the input reads as it did. -/
def fixAverageUptoRow : OpenClaim := { program := "ytieiamkcdgppaaa", sum := "ca261d0992df0f6816ca8ec5ea6d34b917d81af8b422e9336f4cb0c4f41e7d80", func := "fourinhand/fourinhandlaw01.FixAverage", spec := "fixAverage", unfollowed := true, recurses := true, apart := false, narrowed := true }
def FixAverageUptoSaid : Prop := fixAverageUptoRow.holds Try.pinned (OpenSpec.upto fixAverageSpec)

/-- 'fourinhandlaw01.FixRange', WHERE WHAT IT READS IS OF BULK AT MOST 1048576: true; the input reads as it did. -/
def fixRangeUptoRow : OpenClaim := { program := "ytieiamkcdgppaaa", sum := "ca261d0992df0f6816ca8ec5ea6d34b917d81af8b422e9336f4cb0c4f41e7d80", func := "fourinhand/fourinhandlaw01.FixRange", spec := "fixRange", unfollowed := true, recurses := true, apart := false, narrowed := true }
def FixRangeUptoSaid : Prop := fixRangeUptoRow.holds Try.pinned (OpenSpec.upto fixRangeSpec)

/-- 'fourinhandlaw01.FixTells', WHERE WHAT IT READS IS OF BULK AT MOST 1048576: true; the input reads as it did. -/
def fixTellsUptoRow : OpenClaim := { program := "ytieiamkcdgppaaa", sum := "ca261d0992df0f6816ca8ec5ea6d34b917d81af8b422e9336f4cb0c4f41e7d80", func := "fourinhand/fourinhandlaw01.FixTells", spec := "fixTells", unfollowed := true, recurses := true, apart := false, narrowed := true }
def FixTellsUptoSaid : Prop := fixTellsUptoRow.holds Try.pinned (OpenSpec.upto fixTellsSpec)

end Rows
end Go.Proofs.Ytieiamkcdgppaaa
