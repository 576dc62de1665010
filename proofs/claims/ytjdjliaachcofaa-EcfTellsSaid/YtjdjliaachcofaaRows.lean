/-
  No cell of these rows narrows 'for every input' (looked for: loops, veiled, ifaces, maps, wideKeys, modest, calm, conditions, laid).
  DERIVED. THE GIVEN ROWS OF THIS SEAT. 5 by the template 'for every input the law returns true; each argument reads behind the call as it read before'; 0 by the template 'total and deterministic' (their statements: YtjdjliaachcofaaTotals.lean).
  GIVEN WITH THE SEED: the statements are not yours to turn. If you find one false, say at which input.
  Laid BY PROGRAM, IN A SANDBOX (cutbox-rows.mjs): the forced cells as the released guide's own fill.sh prints them over the translation e8b34366fff70741… (all of the seat's roots in one cut). By AI agents, Wed Nov 11 2026. No macro, syntax, notation, axiom, sorry.
-/
import Derived.Test.YtjdjliaachcofaaChecked
import GoSem.Claim
import GoSem.ClaimJoined
import GoSem.ClaimMapViews
import Derived.JoinedTies
import Derived.KernelRfl
namespace Go.Proofs.Ytjdjliaachcofaa
/- THE CELL 'sum', in the pinned program and in every row, IS THE sha256 OF THE DUMP (.gsa) THAT YtjdjliaachcofaaProg.lean LOADS. Nothing in Lean hashes anything: it is a label: what it is worth is what the hold of that sum in a sandbox is worth. -/
noncomputable def Try.pinned : Pinned := { name := "ytjdjliaachcofaa", sum := "e8b34366fff7074157cd5ed700c2001e195aa89e7677057a3d0b73c14766f4a4", checked := Try.checked }
namespace Rows
def none {H : Type} : Left H := { results := [], args := [] }

/-- 'fourinhandlaw18.EcfTells': WHATEVER THE INPUT: true; the input reads as it did. -/
def ecfTellsSpec : ChangeSpec := { name := "ecfTells", fn := fun _ => fun
  | [d1, d2, d3, d4] => { results := [.lit (.bool true)], args := [d1, d2, d3, d4] }
  | _ => none }
def ecfTellsRow : OpenClaim := { program := "ytjdjliaachcofaa", sum := "e8b34366fff7074157cd5ed700c2001e195aa89e7677057a3d0b73c14766f4a4", func := "fourinhand/fourinhandlaw18.EcfTells", spec := "ecfTells", unfollowed := true, recurses := true, apart := false }
def EcfTellsSaid : Prop := ecfTellsRow.holds Try.pinned (OpenSpec.ofChange ecfTellsSpec)

/-- ITS FALSE NEIGHBOUR: 'it returns false'. Refute it at one input. -/
def ecfTellsWrong : ChangeSpec := { name := "ecfTells", fn := fun _ => fun
  | [d1, d2, d3, d4] => { results := [.lit (.bool false)], args := [d1, d2, d3, d4] }
  | _ => none }
def EcfTellsWrongFalsely : Prop := ecfTellsRow.holds Try.pinned (OpenSpec.ofChange ecfTellsWrong)

/-- 'fourinhandlaw18.EcfRoom': WHATEVER THE INPUT: true; the input reads as it did. -/
def ecfRoomSpec : ChangeSpec := { name := "ecfRoom", fn := fun _ => fun
  | [d1, d2, d3, d4] => { results := [.lit (.bool true)], args := [d1, d2, d3, d4] }
  | _ => none }
def ecfRoomRow : OpenClaim := { program := "ytjdjliaachcofaa", sum := "e8b34366fff7074157cd5ed700c2001e195aa89e7677057a3d0b73c14766f4a4", func := "fourinhand/fourinhandlaw18.EcfRoom", spec := "ecfRoom", unfollowed := true, recurses := true, apart := false }
def EcfRoomSaid : Prop := ecfRoomRow.holds Try.pinned (OpenSpec.ofChange ecfRoomSpec)

/-- ITS FALSE NEIGHBOUR: 'it returns false'. Refute it at one input. -/
def ecfRoomWrong : ChangeSpec := { name := "ecfRoom", fn := fun _ => fun
  | [d1, d2, d3, d4] => { results := [.lit (.bool false)], args := [d1, d2, d3, d4] }
  | _ => none }
def EcfRoomWrongFalsely : Prop := ecfRoomRow.holds Try.pinned (OpenSpec.ofChange ecfRoomWrong)

/-- 'fourinhandlaw18.EcfWaits': WHATEVER THE INPUT: true; the input reads as it did. -/
def ecfWaitsSpec : ChangeSpec := { name := "ecfWaits", fn := fun _ => fun
  | [d1, d2, d3] => { results := [.lit (.bool true)], args := [d1, d2, d3] }
  | _ => none }
def ecfWaitsRow : OpenClaim := { program := "ytjdjliaachcofaa", sum := "e8b34366fff7074157cd5ed700c2001e195aa89e7677057a3d0b73c14766f4a4", func := "fourinhand/fourinhandlaw18.EcfWaits", spec := "ecfWaits", unfollowed := true, recurses := true, apart := false }
def EcfWaitsSaid : Prop := ecfWaitsRow.holds Try.pinned (OpenSpec.ofChange ecfWaitsSpec)

/-- ITS FALSE NEIGHBOUR: 'it returns false'. Refute it at one input. -/
def ecfWaitsWrong : ChangeSpec := { name := "ecfWaits", fn := fun _ => fun
  | [d1, d2, d3] => { results := [.lit (.bool false)], args := [d1, d2, d3] }
  | _ => none }
def EcfWaitsWrongFalsely : Prop := ecfWaitsRow.holds Try.pinned (OpenSpec.ofChange ecfWaitsWrong)

/-- 'fourinhandlaw18.EcfOrder': WHATEVER THE INPUT: true; the input reads as it did. -/
def ecfOrderSpec : ChangeSpec := { name := "ecfOrder", fn := fun _ => fun
  | [d1, d2, d3, d4, d5] => { results := [.lit (.bool true)], args := [d1, d2, d3, d4, d5] }
  | _ => none }
def ecfOrderRow : OpenClaim := { program := "ytjdjliaachcofaa", sum := "e8b34366fff7074157cd5ed700c2001e195aa89e7677057a3d0b73c14766f4a4", func := "fourinhand/fourinhandlaw18.EcfOrder", spec := "ecfOrder", unfollowed := true, recurses := true, apart := false }
def EcfOrderSaid : Prop := ecfOrderRow.holds Try.pinned (OpenSpec.ofChange ecfOrderSpec)

/-- ITS FALSE NEIGHBOUR: 'it returns false'. Refute it at one input. -/
def ecfOrderWrong : ChangeSpec := { name := "ecfOrder", fn := fun _ => fun
  | [d1, d2, d3, d4, d5] => { results := [.lit (.bool false)], args := [d1, d2, d3, d4, d5] }
  | _ => none }
def EcfOrderWrongFalsely : Prop := ecfOrderRow.holds Try.pinned (OpenSpec.ofChange ecfOrderWrong)

/-- 'fourinhandlaw18.EcfMuch': WHATEVER THE INPUT: true; the input reads as it did. -/
def ecfMuchSpec : ChangeSpec := { name := "ecfMuch", fn := fun _ => fun
  | [d1, d2, d3] => { results := [.lit (.bool true)], args := [d1, d2, d3] }
  | _ => none }
def ecfMuchRow : OpenClaim := { program := "ytjdjliaachcofaa", sum := "e8b34366fff7074157cd5ed700c2001e195aa89e7677057a3d0b73c14766f4a4", func := "fourinhand/fourinhandlaw18.EcfMuch", spec := "ecfMuch", unfollowed := true, recurses := true, apart := false }
def EcfMuchSaid : Prop := ecfMuchRow.holds Try.pinned (OpenSpec.ofChange ecfMuchSpec)

/-- ITS FALSE NEIGHBOUR: 'it returns false'. Refute it at one input. -/
def ecfMuchWrong : ChangeSpec := { name := "ecfMuch", fn := fun _ => fun
  | [d1, d2, d3] => { results := [.lit (.bool false)], args := [d1, d2, d3] }
  | _ => none }
def EcfMuchWrongFalsely : Prop := ecfMuchRow.holds Try.pinned (OpenSpec.ofChange ecfMuchWrong)

/- THE SECOND FORM. 'bulk': how many values and letters a reading holds, each counted each time it is reached (what is shared counts as often as it is met; a slice's spare places count too). A statement '..UptoSaid' is the law's where the arguments, and the package variables that the reading takes, are together of bulk at most 1048576: NARROWER than '..Said'. Prove '..Said' where nothing that the law and all that it calls make is longer than what came in: it says more and counts as full. Else prove '..UptoSaid'. A law counts once. -/
mutual
def uptoBulk {H : Type} : DataW H → Nat
  | .lit (.string bytes) => bytes.length + 1
  | .lit _ => 1
  | .nil => 1
  | .ptr d => uptoBulk d + 1
  | .slice elems spare => uptoBulkAll elems + uptoBulkAll spare + 1
  | .agg parts => uptoBulkAll parts + 1
  | .iface _ d => uptoBulk d + 1
  | .map entries => uptoBulkEntries entries + 1
  | .held _ => 1
def uptoBulkAll {H : Type} : List (DataW H) → Nat
  | [] => 0
  | d :: r => uptoBulk d + uptoBulkAll r
def uptoBulkEntries {H : Type} : List (Lit × DataW H) → Nat
  | [] => 0
  | x :: r => uptoBulkEntry x + uptoBulkEntries r
def uptoBulkEntry {H : Type} : Lit × DataW H → Nat
  | (.string bytes, d) => bytes.length + uptoBulk d + 1
  | (_, d) => uptoBulk d + 1
 end
def uptoSmall : (H : Type) → List (DataW H) → Bool := fun _ ds => decide (uptoBulkAll ds ≤ 1048576)
def OpenSpec.upto (s : _root_.Go.ChangeSpec) : _root_.Go.OpenSpec := { _root_.Go.OpenSpec.ofChange s with cond := some uptoSmall }

/-- 'fourinhandlaw18.EcfTells', WHERE WHAT IT READS IS OF BULK AT MOST 1048576: true; the input reads as it did. -/
def ecfTellsUptoRow : OpenClaim := { program := "ytjdjliaachcofaa", sum := "e8b34366fff7074157cd5ed700c2001e195aa89e7677057a3d0b73c14766f4a4", func := "fourinhand/fourinhandlaw18.EcfTells", spec := "ecfTells", unfollowed := true, recurses := true, apart := false, narrowed := true }
def EcfTellsUptoSaid : Prop := ecfTellsUptoRow.holds Try.pinned (OpenSpec.upto ecfTellsSpec)

/-- 'fourinhandlaw18.EcfRoom', WHERE WHAT IT READS IS OF BULK AT MOST 1048576: true; the input reads as it did. -/
def ecfRoomUptoRow : OpenClaim := { program := "ytjdjliaachcofaa", sum := "e8b34366fff7074157cd5ed700c2001e195aa89e7677057a3d0b73c14766f4a4", func := "fourinhand/fourinhandlaw18.EcfRoom", spec := "ecfRoom", unfollowed := true, recurses := true, apart := false, narrowed := true }
def EcfRoomUptoSaid : Prop := ecfRoomUptoRow.holds Try.pinned (OpenSpec.upto ecfRoomSpec)

/-- 'fourinhandlaw18.EcfWaits', WHERE WHAT IT READS IS OF BULK AT MOST 1048576: true; the input reads as it did. -/
def ecfWaitsUptoRow : OpenClaim := { program := "ytjdjliaachcofaa", sum := "e8b34366fff7074157cd5ed700c2001e195aa89e7677057a3d0b73c14766f4a4", func := "fourinhand/fourinhandlaw18.EcfWaits", spec := "ecfWaits", unfollowed := true, recurses := true, apart := false, narrowed := true }
def EcfWaitsUptoSaid : Prop := ecfWaitsUptoRow.holds Try.pinned (OpenSpec.upto ecfWaitsSpec)

/-- 'fourinhandlaw18.EcfOrder', WHERE WHAT IT READS IS OF BULK AT MOST 1048576: true; the input reads as it did. -/
def ecfOrderUptoRow : OpenClaim := { program := "ytjdjliaachcofaa", sum := "e8b34366fff7074157cd5ed700c2001e195aa89e7677057a3d0b73c14766f4a4", func := "fourinhand/fourinhandlaw18.EcfOrder", spec := "ecfOrder", unfollowed := true, recurses := true, apart := false, narrowed := true }
def EcfOrderUptoSaid : Prop := ecfOrderUptoRow.holds Try.pinned (OpenSpec.upto ecfOrderSpec)

/-- 'fourinhandlaw18.EcfMuch', WHERE WHAT IT READS IS OF BULK AT MOST 1048576: true; the input reads as it did. -/
def ecfMuchUptoRow : OpenClaim := { program := "ytjdjliaachcofaa", sum := "e8b34366fff7074157cd5ed700c2001e195aa89e7677057a3d0b73c14766f4a4", func := "fourinhand/fourinhandlaw18.EcfMuch", spec := "ecfMuch", unfollowed := true, recurses := true, apart := false, narrowed := true }
def EcfMuchUptoSaid : Prop := ecfMuchUptoRow.holds Try.pinned (OpenSpec.upto ecfMuchSpec)

end Rows
end Go.Proofs.Ytjdjliaachcofaa
