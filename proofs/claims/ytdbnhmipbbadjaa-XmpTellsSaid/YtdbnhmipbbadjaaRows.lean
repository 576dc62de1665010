/-
  No cell of these rows narrows 'for every input' (looked for: loops, veiled, ifaces, maps, wideKeys, modest, calm, conditions, laid).
  DERIVED. THE GIVEN ROWS OF THIS SEAT. 6 by the template 'for every input the law returns true; each argument reads behind the call as it read before'; 0 by the template 'total and deterministic' (their statements: YtdbnhmipbbadjaaTotals.lean).
  GIVEN WITH THE SEED: the statements are not yours to turn. If you find one false, say at which input.
  Laid BY PROGRAM, IN A SANDBOX (cutbox-rows.mjs): the forced cells as the released guide's own fill.sh prints them over the translation 8ef760153fed8ee8… (all of the seat's roots in one cut). By AI agents, Wed Nov 11 2026. No macro, syntax, notation, axiom, sorry.
-/
import Derived.Test.YtdbnhmipbbadjaaChecked
import GoSem.Claim
import GoSem.ClaimJoined
import GoSem.ClaimMapViews
import Derived.JoinedTies
import Derived.KernelRfl
namespace Go.Proofs.Ytdbnhmipbbadjaa
/- THE CELL 'sum', in the pinned program and in every row, IS THE sha256 OF THE DUMP (.gsa) THAT YtdbnhmipbbadjaaProg.lean LOADS. Nothing in Lean hashes anything: it is a label: what it is worth is what the hold of that sum in a sandbox is worth. -/
noncomputable def Try.pinned : Pinned := { name := "ytdbnhmipbbadjaa", sum := "8ef760153fed8ee8370f918640b56821e4291d2c2980f7cce409e03047391b76", checked := Try.checked }
namespace Rows
def none {H : Type} : Left H := { results := [], args := [] }

/-- 'fourinhandlaw15.XmpTogether': WHATEVER THE INPUT: true; the input reads as it did. -/
def xmpTogetherSpec : ChangeSpec := { name := "xmpTogether", fn := fun _ => fun
  | [d1, d2] => { results := [.lit (.bool true)], args := [d1, d2] }
  | _ => none }
def xmpTogetherRow : OpenClaim := { program := "ytdbnhmipbbadjaa", sum := "8ef760153fed8ee8370f918640b56821e4291d2c2980f7cce409e03047391b76", func := "fourinhand/fourinhandlaw15.XmpTogether", spec := "xmpTogether", unfollowed := true, recurses := true, apart := false }
def XmpTogetherSaid : Prop := xmpTogetherRow.holds Try.pinned (OpenSpec.ofChange xmpTogetherSpec)

/-- ITS FALSE NEIGHBOUR: 'it returns false'. Refute it at one input. -/
def xmpTogetherWrong : ChangeSpec := { name := "xmpTogether", fn := fun _ => fun
  | [d1, d2] => { results := [.lit (.bool false)], args := [d1, d2] }
  | _ => none }
def XmpTogetherWrongFalsely : Prop := xmpTogetherRow.holds Try.pinned (OpenSpec.ofChange xmpTogetherWrong)

/-- 'fourinhandlaw15.XmpShare': WHATEVER THE INPUT: true; the input reads as it did. -/
def xmpShareSpec : ChangeSpec := { name := "xmpShare", fn := fun _ => fun
  | [d1, d2, d3, d4] => { results := [.lit (.bool true)], args := [d1, d2, d3, d4] }
  | _ => none }
def xmpShareRow : OpenClaim := { program := "ytdbnhmipbbadjaa", sum := "8ef760153fed8ee8370f918640b56821e4291d2c2980f7cce409e03047391b76", func := "fourinhand/fourinhandlaw15.XmpShare", spec := "xmpShare", unfollowed := true, recurses := true, apart := false }
def XmpShareSaid : Prop := xmpShareRow.holds Try.pinned (OpenSpec.ofChange xmpShareSpec)

/-- ITS FALSE NEIGHBOUR: 'it returns false'. Refute it at one input. -/
def xmpShareWrong : ChangeSpec := { name := "xmpShare", fn := fun _ => fun
  | [d1, d2, d3, d4] => { results := [.lit (.bool false)], args := [d1, d2, d3, d4] }
  | _ => none }
def XmpShareWrongFalsely : Prop := xmpShareRow.holds Try.pinned (OpenSpec.ofChange xmpShareWrong)

/-- 'fourinhandlaw15.XmpSlow': WHATEVER THE INPUT: true; the input reads as it did. -/
def xmpSlowSpec : ChangeSpec := { name := "xmpSlow", fn := fun _ => fun
  | [d1, d2, d3, d4, d5] => { results := [.lit (.bool true)], args := [d1, d2, d3, d4, d5] }
  | _ => none }
def xmpSlowRow : OpenClaim := { program := "ytdbnhmipbbadjaa", sum := "8ef760153fed8ee8370f918640b56821e4291d2c2980f7cce409e03047391b76", func := "fourinhand/fourinhandlaw15.XmpSlow", spec := "xmpSlow", unfollowed := true, recurses := true, apart := false }
def XmpSlowSaid : Prop := xmpSlowRow.holds Try.pinned (OpenSpec.ofChange xmpSlowSpec)

/-- ITS FALSE NEIGHBOUR: 'it returns false'. Refute it at one input. -/
def xmpSlowWrong : ChangeSpec := { name := "xmpSlow", fn := fun _ => fun
  | [d1, d2, d3, d4, d5] => { results := [.lit (.bool false)], args := [d1, d2, d3, d4, d5] }
  | _ => none }
def XmpSlowWrongFalsely : Prop := xmpSlowRow.holds Try.pinned (OpenSpec.ofChange xmpSlowWrong)

/-- 'fourinhandlaw15.XmpCut': WHATEVER THE INPUT: true; the input reads as it did. -/
def xmpCutSpec : ChangeSpec := { name := "xmpCut", fn := fun _ => fun
  | [d1, d2, d3, d4, d5] => { results := [.lit (.bool true)], args := [d1, d2, d3, d4, d5] }
  | _ => none }
def xmpCutRow : OpenClaim := { program := "ytdbnhmipbbadjaa", sum := "8ef760153fed8ee8370f918640b56821e4291d2c2980f7cce409e03047391b76", func := "fourinhand/fourinhandlaw15.XmpCut", spec := "xmpCut", unfollowed := true, recurses := true, apart := false }
def XmpCutSaid : Prop := xmpCutRow.holds Try.pinned (OpenSpec.ofChange xmpCutSpec)

/-- ITS FALSE NEIGHBOUR: 'it returns false'. Refute it at one input. -/
def xmpCutWrong : ChangeSpec := { name := "xmpCut", fn := fun _ => fun
  | [d1, d2, d3, d4, d5] => { results := [.lit (.bool false)], args := [d1, d2, d3, d4, d5] }
  | _ => none }
def XmpCutWrongFalsely : Prop := xmpCutRow.holds Try.pinned (OpenSpec.ofChange xmpCutWrong)

/-- 'fourinhandlaw15.XmpTells': WHATEVER THE INPUT: true; the input reads as it did. -/
def xmpTellsSpec : ChangeSpec := { name := "xmpTells", fn := fun _ => fun
  | [d1, d2, d3, d4, d5, d6, d7] => { results := [.lit (.bool true)], args := [d1, d2, d3, d4, d5, d6, d7] }
  | _ => none }
def xmpTellsRow : OpenClaim := { program := "ytdbnhmipbbadjaa", sum := "8ef760153fed8ee8370f918640b56821e4291d2c2980f7cce409e03047391b76", func := "fourinhand/fourinhandlaw15.XmpTells", spec := "xmpTells", unfollowed := true, recurses := true, apart := false }
def XmpTellsSaid : Prop := xmpTellsRow.holds Try.pinned (OpenSpec.ofChange xmpTellsSpec)

/-- ITS FALSE NEIGHBOUR: 'it returns false'. Refute it at one input. -/
def xmpTellsWrong : ChangeSpec := { name := "xmpTells", fn := fun _ => fun
  | [d1, d2, d3, d4, d5, d6, d7] => { results := [.lit (.bool false)], args := [d1, d2, d3, d4, d5, d6, d7] }
  | _ => none }
def XmpTellsWrongFalsely : Prop := xmpTellsRow.holds Try.pinned (OpenSpec.ofChange xmpTellsWrong)

/-- 'fourinhandlaw15.XmpBounds': WHATEVER THE INPUT: true; the input reads as it did. -/
def xmpBoundsSpec : ChangeSpec := { name := "xmpBounds", fn := fun _ => fun
  | [d1, d2, d3, d4, d5] => { results := [.lit (.bool true)], args := [d1, d2, d3, d4, d5] }
  | _ => none }
def xmpBoundsRow : OpenClaim := { program := "ytdbnhmipbbadjaa", sum := "8ef760153fed8ee8370f918640b56821e4291d2c2980f7cce409e03047391b76", func := "fourinhand/fourinhandlaw15.XmpBounds", spec := "xmpBounds", unfollowed := true, recurses := true, apart := false }
def XmpBoundsSaid : Prop := xmpBoundsRow.holds Try.pinned (OpenSpec.ofChange xmpBoundsSpec)

/-- ITS FALSE NEIGHBOUR: 'it returns false'. Refute it at one input. -/
def xmpBoundsWrong : ChangeSpec := { name := "xmpBounds", fn := fun _ => fun
  | [d1, d2, d3, d4, d5] => { results := [.lit (.bool false)], args := [d1, d2, d3, d4, d5] }
  | _ => none }
def XmpBoundsWrongFalsely : Prop := xmpBoundsRow.holds Try.pinned (OpenSpec.ofChange xmpBoundsWrong)

/- THE SECOND FORM. 'bulk': how many values and letters a reading holds, each counted each time it is reached (what is shared counts as often as it is met; a slice's spare places count too). A statement '..UptoSaid' is the law's where the arguments, and the package variables that the reading takes, are together of bulk at most 1048576: NARROWER than '..Said'. Prove '..Said' where nothing that the law and all that it calls make is longer than what came in: it says more and counts as full. Else prove '..UptoSaid'. A law counts once. -/
mutual
def uptoBulk {H : Type} : DataW H → Nat
  | .lit (.string bytes) => bytes.length + 1
  | .lit _ => 1
  | .nil => 1
  | .ptr d => uptoBulk d + 1
  | .slice elems spare => uptoBulkAll elems + uptoBulkAll spare + 1
  | .agg parts => uptoBulkAll parts + 1
  | .iface _ d => uptoBulk d + 1
  | .map entries => uptoBulkEntries entries + 1
  | .held _ => 1
def uptoBulkAll {H : Type} : List (DataW H) → Nat
  | [] => 0
  | d :: r => uptoBulk d + uptoBulkAll r
def uptoBulkEntries {H : Type} : List (Lit × DataW H) → Nat
  | [] => 0
  | x :: r => uptoBulkEntry x + uptoBulkEntries r
def uptoBulkEntry {H : Type} : Lit × DataW H → Nat
  | (.string bytes, d) => bytes.length + uptoBulk d + 1
  | (_, d) => uptoBulk d + 1
 end
def uptoSmall : (H : Type) → List (DataW H) → Bool := fun _ ds => decide (uptoBulkAll ds ≤ 1048576)
def OpenSpec.upto (s : _root_.Go.ChangeSpec) : _root_.Go.OpenSpec := { _root_.Go.OpenSpec.ofChange s with cond := some uptoSmall }

/-- 'fourinhandlaw15.XmpTogether', WHERE WHAT IT READS IS OF BULK AT MOST 1048576: true; the input reads as it did. -/
def xmpTogetherUptoRow : OpenClaim := { program := "ytdbnhmipbbadjaa", sum := "8ef760153fed8ee8370f918640b56821e4291d2c2980f7cce409e03047391b76", func := "fourinhand/fourinhandlaw15.XmpTogether", spec := "xmpTogether", unfollowed := true, recurses := true, apart := false, narrowed := true }
def XmpTogetherUptoSaid : Prop := xmpTogetherUptoRow.holds Try.pinned (OpenSpec.upto xmpTogetherSpec)

/-- 'fourinhandlaw15.XmpShare', WHERE WHAT IT READS IS OF BULK AT MOST 1048576: true; the input reads as it did. -/
def xmpShareUptoRow : OpenClaim := { program := "ytdbnhmipbbadjaa", sum := "8ef760153fed8ee8370f918640b56821e4291d2c2980f7cce409e03047391b76", func := "fourinhand/fourinhandlaw15.XmpShare", spec := "xmpShare", unfollowed := true, recurses := true, apart := false, narrowed := true }
def XmpShareUptoSaid : Prop := xmpShareUptoRow.holds Try.pinned (OpenSpec.upto xmpShareSpec)

/-- 'fourinhandlaw15.XmpSlow', WHERE WHAT IT READS IS OF BULK AT MOST 1048576: true; the input reads as it did. -/
def xmpSlowUptoRow : OpenClaim := { program := "ytdbnhmipbbadjaa", sum := "8ef760153fed8ee8370f918640b56821e4291d2c2980f7cce409e03047391b76", func := "fourinhand/fourinhandlaw15.XmpSlow", spec := "xmpSlow", unfollowed := true, recurses := true, apart := false, narrowed := true }
def XmpSlowUptoSaid : Prop := xmpSlowUptoRow.holds Try.pinned (OpenSpec.upto xmpSlowSpec)

/-- 'fourinhandlaw15.XmpCut', WHERE WHAT IT READS IS OF BULK AT MOST 1048576: true; the input reads as it did. -/
def xmpCutUptoRow : OpenClaim := { program := "ytdbnhmipbbadjaa", sum := "8ef760153fed8ee8370f918640b56821e4291d2c2980f7cce409e03047391b76", func := "fourinhand/fourinhandlaw15.XmpCut", spec := "xmpCut", unfollowed := true, recurses := true, apart := false, narrowed := true }
def XmpCutUptoSaid : Prop := xmpCutUptoRow.holds Try.pinned (OpenSpec.upto xmpCutSpec)

/-- 'fourinhandlaw15.XmpTells', WHERE WHAT IT READS IS OF BULK AT MOST 1048576: true; the input reads as it did. -/
def xmpTellsUptoRow : OpenClaim := { program := "ytdbnhmipbbadjaa", sum := "8ef760153fed8ee8370f918640b56821e4291d2c2980f7cce409e03047391b76", func := "fourinhand/fourinhandlaw15.XmpTells", spec := "xmpTells", unfollowed := true, recurses := true, apart := false, narrowed := true }
def XmpTellsUptoSaid : Prop := xmpTellsUptoRow.holds Try.pinned (OpenSpec.upto xmpTellsSpec)

/-- 'fourinhandlaw15.XmpBounds', WHERE WHAT IT READS IS OF BULK AT MOST 1048576: true; the input reads as it did. -/
def xmpBoundsUptoRow : OpenClaim := { program := "ytdbnhmipbbadjaa", sum := "8ef760153fed8ee8370f918640b56821e4291d2c2980f7cce409e03047391b76", func := "fourinhand/fourinhandlaw15.XmpBounds", spec := "xmpBounds", unfollowed := true, recurses := true, apart := false, narrowed := true }
def XmpBoundsUptoSaid : Prop := xmpBoundsUptoRow.holds Try.pinned (OpenSpec.upto xmpBoundsSpec)

end Rows
end Go.Proofs.Ytdbnhmipbbadjaa
