/-
  No cell of these rows narrows 'for every input' (looked for: loops, veiled, ifaces, maps, wideKeys, modest, calm, conditions, laid).
  DERIVED. THE GIVEN ROWS OF THIS SEAT. 5 by the template 'for every input the law returns true; each argument reads behind the call as it read before'; 0 by the template 'total and deterministic' (their statements: YtfdaaodpbaikdaaTotals.lean).
  GIVEN WITH THE SEED: the statements are not yours to turn. If you find one false, say at which input.
  Laid BY PROGRAM, IN A SANDBOX (cutbox-rows.mjs): the forced cells as the released guide's own fill.sh prints them over the translation 190714ecfab4e411… (all of the seat's roots in one cut). By AI agents, Wed Nov 11 2026. No macro, syntax, notation, axiom, sorry.
-/
import Derived.Test.YtfdaaodpbaikdaaChecked
import GoSem.Claim
import GoSem.ClaimJoined
import GoSem.ClaimMapViews
import Derived.JoinedTies
import Derived.KernelRfl
namespace Go.Proofs.Ytfdaaodpbaikdaa
/- THE CELL 'sum', in the pinned program and in every row, IS THE sha256 OF THE DUMP (.gsa) THAT YtfdaaodpbaikdaaProg.lean LOADS. Nothing in Lean hashes anything: it is a label: what it is worth is what the hold of that sum in a sandbox is worth. -/
noncomputable def Try.pinned : Pinned := { name := "ytfdaaodpbaikdaa", sum := "190714ecfab4e411ffb2f67628a843ce3e9c6894c28d471874ece508420e7a91", checked := Try.checked }
namespace Rows
def none {H : Type} : Left H := { results := [], args := [] }

/-- 'fourinhandlaw11.RateTells': WHATEVER THE INPUT: true; the input reads as it did. -/
def rateTellsSpec : ChangeSpec := { name := "rateTells", fn := fun _ => fun
  | [d1, d2, d3, d4, d5] => { results := [.lit (.bool true)], args := [d1, d2, d3, d4, d5] }
  | _ => none }
def rateTellsRow : OpenClaim := { program := "ytfdaaodpbaikdaa", sum := "190714ecfab4e411ffb2f67628a843ce3e9c6894c28d471874ece508420e7a91", func := "fourinhand/fourinhandlaw11.RateTells", spec := "rateTells", unfollowed := true, recurses := true, apart := false }
def RateTellsSaid : Prop := rateTellsRow.holds Try.pinned (OpenSpec.ofChange rateTellsSpec)

/-- ITS FALSE NEIGHBOUR: 'it returns false'. Refute it at one input. -/
def rateTellsWrong : ChangeSpec := { name := "rateTells", fn := fun _ => fun
  | [d1, d2, d3, d4, d5] => { results := [.lit (.bool false)], args := [d1, d2, d3, d4, d5] }
  | _ => none }
def RateTellsWrongFalsely : Prop := rateTellsRow.holds Try.pinned (OpenSpec.ofChange rateTellsWrong)

/-- 'fourinhandlaw11.RateBest': WHATEVER THE INPUT: true; the input reads as it did. -/
def rateBestSpec : ChangeSpec := { name := "rateBest", fn := fun _ => fun
  | [d1, d2] => { results := [.lit (.bool true)], args := [d1, d2] }
  | _ => none }
def rateBestRow : OpenClaim := { program := "ytfdaaodpbaikdaa", sum := "190714ecfab4e411ffb2f67628a843ce3e9c6894c28d471874ece508420e7a91", func := "fourinhand/fourinhandlaw11.RateBest", spec := "rateBest", unfollowed := true, recurses := true, apart := false }
def RateBestSaid : Prop := rateBestRow.holds Try.pinned (OpenSpec.ofChange rateBestSpec)

/-- ITS FALSE NEIGHBOUR: 'it returns false'. Refute it at one input. -/
def rateBestWrong : ChangeSpec := { name := "rateBest", fn := fun _ => fun
  | [d1, d2] => { results := [.lit (.bool false)], args := [d1, d2] }
  | _ => none }
def RateBestWrongFalsely : Prop := rateBestRow.holds Try.pinned (OpenSpec.ofChange rateBestWrong)

/-- 'fourinhandlaw11.RateMore': WHATEVER THE INPUT: true; the input reads as it did. -/
def rateMoreSpec : ChangeSpec := { name := "rateMore", fn := fun _ => fun
  | [d1, d2, d3, d4, d5] => { results := [.lit (.bool true)], args := [d1, d2, d3, d4, d5] }
  | _ => none }
def rateMoreRow : OpenClaim := { program := "ytfdaaodpbaikdaa", sum := "190714ecfab4e411ffb2f67628a843ce3e9c6894c28d471874ece508420e7a91", func := "fourinhand/fourinhandlaw11.RateMore", spec := "rateMore", unfollowed := true, recurses := true, apart := false }
def RateMoreSaid : Prop := rateMoreRow.holds Try.pinned (OpenSpec.ofChange rateMoreSpec)

/-- ITS FALSE NEIGHBOUR: 'it returns false'. Refute it at one input. -/
def rateMoreWrong : ChangeSpec := { name := "rateMore", fn := fun _ => fun
  | [d1, d2, d3, d4, d5] => { results := [.lit (.bool false)], args := [d1, d2, d3, d4, d5] }
  | _ => none }
def RateMoreWrongFalsely : Prop := rateMoreRow.holds Try.pinned (OpenSpec.ofChange rateMoreWrong)

/-- 'fourinhandlaw11.RateWrong': WHATEVER THE INPUT: true; the input reads as it did. -/
def rateWrongSpec : ChangeSpec := { name := "rateWrong", fn := fun _ => fun
  | [d1, d2, d3, d4, d5] => { results := [.lit (.bool true)], args := [d1, d2, d3, d4, d5] }
  | _ => none }
def rateWrongRow : OpenClaim := { program := "ytfdaaodpbaikdaa", sum := "190714ecfab4e411ffb2f67628a843ce3e9c6894c28d471874ece508420e7a91", func := "fourinhand/fourinhandlaw11.RateWrong", spec := "rateWrong", unfollowed := true, recurses := true, apart := false }
def RateWrongSaid : Prop := rateWrongRow.holds Try.pinned (OpenSpec.ofChange rateWrongSpec)

/-- ITS FALSE NEIGHBOUR: 'it returns false'. Refute it at one input. -/
def rateWrongWrong : ChangeSpec := { name := "rateWrong", fn := fun _ => fun
  | [d1, d2, d3, d4, d5] => { results := [.lit (.bool false)], args := [d1, d2, d3, d4, d5] }
  | _ => none }
def RateWrongWrongFalsely : Prop := rateWrongRow.holds Try.pinned (OpenSpec.ofChange rateWrongWrong)

/-- 'fourinhandlaw11.RateSteady': WHATEVER THE INPUT: true; the input reads as it did. -/
def rateSteadySpec : ChangeSpec := { name := "rateSteady", fn := fun _ => fun
  | [d1, d2, d3] => { results := [.lit (.bool true)], args := [d1, d2, d3] }
  | _ => none }
def rateSteadyRow : OpenClaim := { program := "ytfdaaodpbaikdaa", sum := "190714ecfab4e411ffb2f67628a843ce3e9c6894c28d471874ece508420e7a91", func := "fourinhand/fourinhandlaw11.RateSteady", spec := "rateSteady", unfollowed := true, recurses := true, apart := false }
def RateSteadySaid : Prop := rateSteadyRow.holds Try.pinned (OpenSpec.ofChange rateSteadySpec)

/-- ITS FALSE NEIGHBOUR: 'it returns false'. Refute it at one input. -/
def rateSteadyWrong : ChangeSpec := { name := "rateSteady", fn := fun _ => fun
  | [d1, d2, d3] => { results := [.lit (.bool false)], args := [d1, d2, d3] }
  | _ => none }
def RateSteadyWrongFalsely : Prop := rateSteadyRow.holds Try.pinned (OpenSpec.ofChange rateSteadyWrong)

/- THE SECOND FORM. 'bulk': how many values and letters a reading holds, each counted each time it is reached (what is shared counts as often as it is met; a slice's spare places count too). A statement '..UptoSaid' is the law's where the arguments, and the package variables that the reading takes, are together of bulk at most 1048576: NARROWER than '..Said'. Prove '..Said' where nothing that the law and all that it calls make is longer than what came in: it says more and counts as full. Else prove '..UptoSaid'. A law counts once. -/
mutual
def uptoBulk {H : Type} : DataW H → Nat
  | .lit (.string bytes) => bytes.length + 1
  | .lit _ => 1
  | .nil => 1
  | .ptr d => uptoBulk d + 1
  | .slice elems spare => uptoBulkAll elems + uptoBulkAll spare + 1
  | .agg parts => uptoBulkAll parts + 1
  | .iface _ d => uptoBulk d + 1
  | .map entries => uptoBulkEntries entries + 1
  | .held _ => 1
def uptoBulkAll {H : Type} : List (DataW H) → Nat
  | [] => 0
  | d :: r => uptoBulk d + uptoBulkAll r
def uptoBulkEntries {H : Type} : List (Lit × DataW H) → Nat
  | [] => 0
  | x :: r => uptoBulkEntry x + uptoBulkEntries r
def uptoBulkEntry {H : Type} : Lit × DataW H → Nat
  | (.string bytes, d) => bytes.length + uptoBulk d + 1
  | (_, d) => uptoBulk d + 1
 end
def uptoSmall : (H : Type) → List (DataW H) → Bool := fun _ ds => decide (uptoBulkAll ds ≤ 1048576)
def OpenSpec.upto (s : _root_.Go.ChangeSpec) : _root_.Go.OpenSpec := { _root_.Go.OpenSpec.ofChange s with cond := some uptoSmall }

/-- 'fourinhandlaw11.RateTells', WHERE WHAT IT READS IS OF BULK AT MOST 1048576: true; the input reads as it did. -/
def rateTellsUptoRow : OpenClaim := { program := "ytfdaaodpbaikdaa", sum := "190714ecfab4e411ffb2f67628a843ce3e9c6894c28d471874ece508420e7a91", func := "fourinhand/fourinhandlaw11.RateTells", spec := "rateTells", unfollowed := true, recurses := true, apart := false, narrowed := true }
def RateTellsUptoSaid : Prop := rateTellsUptoRow.holds Try.pinned (OpenSpec.upto rateTellsSpec)

/-- 'fourinhandlaw11.RateBest', WHERE WHAT IT READS IS OF BULK AT MOST 1048576: true; the input reads as it did. -/
def rateBestUptoRow : OpenClaim := { program := "ytfdaaodpbaikdaa", sum := "190714ecfab4e411ffb2f67628a843ce3e9c6894c28d471874ece508420e7a91", func := "fourinhand/fourinhandlaw11.RateBest", spec := "rateBest", unfollowed := true, recurses := true, apart := false, narrowed := true }
def RateBestUptoSaid : Prop := rateBestUptoRow.holds Try.pinned (OpenSpec.upto rateBestSpec)

/-- 'fourinhandlaw11.RateMore', WHERE WHAT IT READS IS OF BULK AT MOST 1048576: true; the input reads as it did. -/
def rateMoreUptoRow : OpenClaim := { program := "ytfdaaodpbaikdaa", sum := "190714ecfab4e411ffb2f67628a843ce3e9c6894c28d471874ece508420e7a91", func := "fourinhand/fourinhandlaw11.RateMore", spec := "rateMore", unfollowed := true, recurses := true, apart := false, narrowed := true }
def RateMoreUptoSaid : Prop := rateMoreUptoRow.holds Try.pinned (OpenSpec.upto rateMoreSpec)

/-- 'fourinhandlaw11.RateWrong', WHERE WHAT IT READS IS OF BULK AT MOST 1048576: true; the input reads as it did. -/
def rateWrongUptoRow : OpenClaim := { program := "ytfdaaodpbaikdaa", sum := "190714ecfab4e411ffb2f67628a843ce3e9c6894c28d471874ece508420e7a91", func := "fourinhand/fourinhandlaw11.RateWrong", spec := "rateWrong", unfollowed := true, recurses := true, apart := false, narrowed := true }
def RateWrongUptoSaid : Prop := rateWrongUptoRow.holds Try.pinned (OpenSpec.upto rateWrongSpec)

/-- 'fourinhandlaw11.RateSteady', WHERE WHAT IT READS IS OF BULK AT MOST 1048576: true; the input reads as it did. -/
def rateSteadyUptoRow : OpenClaim := { program := "ytfdaaodpbaikdaa", sum := "190714ecfab4e411ffb2f67628a843ce3e9c6894c28d471874ece508420e7a91", func := "fourinhand/fourinhandlaw11.RateSteady", spec := "rateSteady", unfollowed := true, recurses := true, apart := false, narrowed := true }
def RateSteadyUptoSaid : Prop := rateSteadyUptoRow.holds Try.pinned (OpenSpec.upto rateSteadySpec)

end Rows
end Go.Proofs.Ytfdaaodpbaikdaa
