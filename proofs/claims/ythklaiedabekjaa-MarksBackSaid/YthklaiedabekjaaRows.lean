/-
  No cell of these rows narrows 'for every input' (looked for: loops, veiled, ifaces, maps, wideKeys, modest, calm, conditions, laid).
  DERIVED. THE GIVEN ROWS OF THIS SEAT. 5 by the template 'for every input the law returns true; each argument reads behind the call as it read before'; 0 by the template 'total and deterministic' (their statements: YthklaiedabekjaaTotals.lean).
  GIVEN WITH THE SEED: the statements are not yours to turn. If you find one false, say at which input.
  Laid BY PROGRAM, IN A SANDBOX (cutbox-rows.mjs): the forced cells as the released guide's own fill.sh prints them over the translation c000d4fc70b714c1… (all of the seat's roots in one cut). By AI agents, Wed Nov 11 2026. No macro, syntax, notation, axiom, sorry.
-/
import Derived.Test.YthklaiedabekjaaChecked
import GoSem.Claim
import GoSem.ClaimJoined
import GoSem.ClaimMapViews
import Derived.JoinedTies
import Derived.KernelRfl
namespace Go.Proofs.Ythklaiedabekjaa
/- THE CELL 'sum', in the pinned program and in every row, IS THE sha256 OF THE DUMP (.gsa) THAT YthklaiedabekjaaProg.lean LOADS. Nothing in Lean hashes anything: it is a label: what it is worth is what the hold of that sum in a sandbox is worth. -/
noncomputable def Try.pinned : Pinned := { name := "ythklaiedabekjaa", sum := "c000d4fc70b714c1b7cf1e6a591c27eda9e278afc0a28e9c32e4f0b1b193053a", checked := Try.checked }
namespace Rows
def none {H : Type} : Left H := { results := [], args := [] }

/-- 'fourinhandlaw10.MarksPart': WHATEVER THE INPUT: true; the input reads as it did. -/
def marksPartSpec : ChangeSpec := { name := "marksPart", fn := fun _ => fun
  | [d] => { results := [.lit (.bool true)], args := [d] }
  | _ => none }
def marksPartRow : OpenClaim := { program := "ythklaiedabekjaa", sum := "c000d4fc70b714c1b7cf1e6a591c27eda9e278afc0a28e9c32e4f0b1b193053a", func := "fourinhand/fourinhandlaw10.MarksPart", spec := "marksPart", unfollowed := true, recurses := true, apart := false }
def MarksPartSaid : Prop := marksPartRow.holds Try.pinned (OpenSpec.ofChange marksPartSpec)

/-- ITS FALSE NEIGHBOUR: 'it returns false'. Refute it at one input. -/
def marksPartWrong : ChangeSpec := { name := "marksPart", fn := fun _ => fun
  | [d] => { results := [.lit (.bool false)], args := [d] }
  | _ => none }
def MarksPartWrongFalsely : Prop := marksPartRow.holds Try.pinned (OpenSpec.ofChange marksPartWrong)

/-- 'fourinhandlaw10.MarksRounds': WHATEVER THE INPUT: true; the input reads as it did. -/
def marksRoundsSpec : ChangeSpec := { name := "marksRounds", fn := fun _ => fun
  | [d1, d2, d3] => { results := [.lit (.bool true)], args := [d1, d2, d3] }
  | _ => none }
def marksRoundsRow : OpenClaim := { program := "ythklaiedabekjaa", sum := "c000d4fc70b714c1b7cf1e6a591c27eda9e278afc0a28e9c32e4f0b1b193053a", func := "fourinhand/fourinhandlaw10.MarksRounds", spec := "marksRounds", unfollowed := true, recurses := true, apart := false }
def MarksRoundsSaid : Prop := marksRoundsRow.holds Try.pinned (OpenSpec.ofChange marksRoundsSpec)

/-- ITS FALSE NEIGHBOUR: 'it returns false'. Refute it at one input. -/
def marksRoundsWrong : ChangeSpec := { name := "marksRounds", fn := fun _ => fun
  | [d1, d2, d3] => { results := [.lit (.bool false)], args := [d1, d2, d3] }
  | _ => none }
def MarksRoundsWrongFalsely : Prop := marksRoundsRow.holds Try.pinned (OpenSpec.ofChange marksRoundsWrong)

/-- 'fourinhandlaw10.MarksTell': WHATEVER THE INPUT: true; the input reads as it did. -/
def marksTellSpec : ChangeSpec := { name := "marksTell", fn := fun _ => fun
  | [d1, d2, d3, d4, d5] => { results := [.lit (.bool true)], args := [d1, d2, d3, d4, d5] }
  | _ => none }
def marksTellRow : OpenClaim := { program := "ythklaiedabekjaa", sum := "c000d4fc70b714c1b7cf1e6a591c27eda9e278afc0a28e9c32e4f0b1b193053a", func := "fourinhand/fourinhandlaw10.MarksTell", spec := "marksTell", unfollowed := true, recurses := true, apart := false }
def MarksTellSaid : Prop := marksTellRow.holds Try.pinned (OpenSpec.ofChange marksTellSpec)

/-- ITS FALSE NEIGHBOUR: 'it returns false'. Refute it at one input. -/
def marksTellWrong : ChangeSpec := { name := "marksTell", fn := fun _ => fun
  | [d1, d2, d3, d4, d5] => { results := [.lit (.bool false)], args := [d1, d2, d3, d4, d5] }
  | _ => none }
def MarksTellWrongFalsely : Prop := marksTellRow.holds Try.pinned (OpenSpec.ofChange marksTellWrong)

/-- 'fourinhandlaw10.MarksBack': WHATEVER THE INPUT: true; the input reads as it did. -/
def marksBackSpec : ChangeSpec := { name := "marksBack", fn := fun _ => fun
  | [d1, d2, d3, d4] => { results := [.lit (.bool true)], args := [d1, d2, d3, d4] }
  | _ => none }
def marksBackRow : OpenClaim := { program := "ythklaiedabekjaa", sum := "c000d4fc70b714c1b7cf1e6a591c27eda9e278afc0a28e9c32e4f0b1b193053a", func := "fourinhand/fourinhandlaw10.MarksBack", spec := "marksBack", unfollowed := true, recurses := true, apart := false }
def MarksBackSaid : Prop := marksBackRow.holds Try.pinned (OpenSpec.ofChange marksBackSpec)

/-- ITS FALSE NEIGHBOUR: 'it returns false'. Refute it at one input. -/
def marksBackWrong : ChangeSpec := { name := "marksBack", fn := fun _ => fun
  | [d1, d2, d3, d4] => { results := [.lit (.bool false)], args := [d1, d2, d3, d4] }
  | _ => none }
def MarksBackWrongFalsely : Prop := marksBackRow.holds Try.pinned (OpenSpec.ofChange marksBackWrong)

/-- 'fourinhandlaw10.MarksTold': WHATEVER THE INPUT: true; the input reads as it did. -/
def marksToldSpec : ChangeSpec := { name := "marksTold", fn := fun _ => fun
  | [d1, d2, d3, d4, d5] => { results := [.lit (.bool true)], args := [d1, d2, d3, d4, d5] }
  | _ => none }
def marksToldRow : OpenClaim := { program := "ythklaiedabekjaa", sum := "c000d4fc70b714c1b7cf1e6a591c27eda9e278afc0a28e9c32e4f0b1b193053a", func := "fourinhand/fourinhandlaw10.MarksTold", spec := "marksTold", unfollowed := true, recurses := true, apart := false }
def MarksToldSaid : Prop := marksToldRow.holds Try.pinned (OpenSpec.ofChange marksToldSpec)

/-- ITS FALSE NEIGHBOUR: 'it returns false'. Refute it at one input. -/
def marksToldWrong : ChangeSpec := { name := "marksTold", fn := fun _ => fun
  | [d1, d2, d3, d4, d5] => { results := [.lit (.bool false)], args := [d1, d2, d3, d4, d5] }
  | _ => none }
def MarksToldWrongFalsely : Prop := marksToldRow.holds Try.pinned (OpenSpec.ofChange marksToldWrong)

/- THE SECOND FORM. 'bulk': how many values and letters a reading holds, each counted each time it is reached (what is shared counts as often as it is met; a slice's spare places count too). A statement '..UptoSaid' is the law's where the arguments, and the package variables that the reading takes, are together of bulk at most 1048576: NARROWER than '..Said'. Prove '..Said' where nothing that the law and all that it calls make is longer than what came in: it says more and counts as full. Else prove '..UptoSaid'. A law counts once. -/
mutual
def uptoBulk {H : Type} : DataW H → Nat
  | .lit (.string bytes) => bytes.length + 1
  | .lit _ => 1
  | .nil => 1
  | .ptr d => uptoBulk d + 1
  | .slice elems spare => uptoBulkAll elems + uptoBulkAll spare + 1
  | .agg parts => uptoBulkAll parts + 1
  | .iface _ d => uptoBulk d + 1
  | .map entries => uptoBulkEntries entries + 1
  | .held _ => 1
def uptoBulkAll {H : Type} : List (DataW H) → Nat
  | [] => 0
  | d :: r => uptoBulk d + uptoBulkAll r
def uptoBulkEntries {H : Type} : List (Lit × DataW H) → Nat
  | [] => 0
  | x :: r => uptoBulkEntry x + uptoBulkEntries r
def uptoBulkEntry {H : Type} : Lit × DataW H → Nat
  | (.string bytes, d) => bytes.length + uptoBulk d + 1
  | (_, d) => uptoBulk d + 1
 end
def uptoSmall : (H : Type) → List (DataW H) → Bool := fun _ ds => decide (uptoBulkAll ds ≤ 1048576)
def OpenSpec.upto (s : _root_.Go.ChangeSpec) : _root_.Go.OpenSpec := { _root_.Go.OpenSpec.ofChange s with cond := some uptoSmall }

/-- 'fourinhandlaw10.MarksPart', WHERE WHAT IT READS IS OF BULK AT MOST 1048576: true; the input reads as it did. -/
def marksPartUptoRow : OpenClaim := { program := "ythklaiedabekjaa", sum := "c000d4fc70b714c1b7cf1e6a591c27eda9e278afc0a28e9c32e4f0b1b193053a", func := "fourinhand/fourinhandlaw10.MarksPart", spec := "marksPart", unfollowed := true, recurses := true, apart := false, narrowed := true }
def MarksPartUptoSaid : Prop := marksPartUptoRow.holds Try.pinned (OpenSpec.upto marksPartSpec)

/-- 'fourinhandlaw10.MarksRounds', WHERE WHAT IT READS IS OF BULK AT MOST 1048576: true; the input reads as it did. -/
def marksRoundsUptoRow : OpenClaim := { program := "ythklaiedabekjaa", sum := "c000d4fc70b714c1b7cf1e6a591c27eda9e278afc0a28e9c32e4f0b1b193053a", func := "fourinhand/fourinhandlaw10.MarksRounds", spec := "marksRounds", unfollowed := true, recurses := true, apart := false, narrowed := true }
def MarksRoundsUptoSaid : Prop := marksRoundsUptoRow.holds Try.pinned (OpenSpec.upto marksRoundsSpec)

/-- 'fourinhandlaw10.MarksTell', WHERE WHAT IT READS IS OF BULK AT MOST 1048576: true; the input reads as it did. -/
def marksTellUptoRow : OpenClaim := { program := "ythklaiedabekjaa", sum := "c000d4fc70b714c1b7cf1e6a591c27eda9e278afc0a28e9c32e4f0b1b193053a", func := "fourinhand/fourinhandlaw10.MarksTell", spec := "marksTell", unfollowed := true, recurses := true, apart := false, narrowed := true }
def MarksTellUptoSaid : Prop := marksTellUptoRow.holds Try.pinned (OpenSpec.upto marksTellSpec)

/-- 'fourinhandlaw10.MarksBack', WHERE WHAT IT READS IS OF BULK AT MOST 1048576: true; the input reads as it did. -/
def marksBackUptoRow : OpenClaim := { program := "ythklaiedabekjaa", sum := "c000d4fc70b714c1b7cf1e6a591c27eda9e278afc0a28e9c32e4f0b1b193053a", func := "fourinhand/fourinhandlaw10.MarksBack", spec := "marksBack", unfollowed := true, recurses := true, apart := false, narrowed := true }
def MarksBackUptoSaid : Prop := marksBackUptoRow.holds Try.pinned (OpenSpec.upto marksBackSpec)

/-- 'fourinhandlaw10.MarksTold', WHERE WHAT IT READS IS OF BULK AT MOST 1048576: true; the input reads as it did. -/
def marksToldUptoRow : OpenClaim := { program := "ythklaiedabekjaa", sum := "c000d4fc70b714c1b7cf1e6a591c27eda9e278afc0a28e9c32e4f0b1b193053a", func := "fourinhand/fourinhandlaw10.MarksTold", spec := "marksTold", unfollowed := true, recurses := true, apart := false, narrowed := true }
def MarksToldUptoSaid : Prop := marksToldUptoRow.holds Try.pinned (OpenSpec.upto marksToldSpec)

end Rows
end Go.Proofs.Ythklaiedabekjaa
