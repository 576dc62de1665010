/-
  No cell of these rows narrows 'for every input' (looked for: loops, veiled, ifaces, maps, wideKeys, modest, calm, conditions, laid).
  DERIVED. THE GIVEN ROWS OF THIS SEAT. 5 by the template 'for every input the law returns true; each argument reads behind the call as it read before'; 0 by the template 'total and deterministic' (their statements: YtiilmjmgomcipaaTotals.lean).
  GIVEN WITH THE SEED: the statements are not yours to turn. If you find one false, say at which input.
  Laid BY PROGRAM, IN A SANDBOX (cutbox-rows.mjs): the forced cells as the released guide's own fill.sh prints them over the translation 95986aaf928bd394… (all of the seat's roots in one cut). By AI agents, Wed Nov 11 2026. No macro, syntax, notation, axiom, sorry.
-/
import Derived.Test.YtiilmjmgomcipaaChecked
import GoSem.Claim
import GoSem.ClaimJoined
import GoSem.ClaimMapViews
import Derived.JoinedTies
import Derived.KernelRfl
namespace Go.Proofs.Ytiilmjmgomcipaa
/- THE CELL 'sum', in the pinned program and in every row, IS THE sha256 OF THE DUMP (.gsa) THAT YtiilmjmgomcipaaProg.lean LOADS. Nothing in Lean hashes anything: it is a label: what it is worth is what the hold of that sum in a sandbox is worth. -/
noncomputable def Try.pinned : Pinned := { name := "ytiilmjmgomcipaa", sum := "95986aaf928bd394a965bb33bfdd806c012bd857a5d04f2f036eb617819da58e", checked := Try.checked }
namespace Rows
def none {H : Type} : Left H := { results := [], args := [] }

/-- 'fourinhandlaw14.TimerWaits': WHATEVER THE INPUT: true; the input reads as it did. -/
def timerWaitsSpec : ChangeSpec := { name := "timerWaits", fn := fun _ => fun
  | [d1, d2, d3, d4, d5] => { results := [.lit (.bool true)], args := [d1, d2, d3, d4, d5] }
  | _ => none }
def timerWaitsRow : OpenClaim := { program := "ytiilmjmgomcipaa", sum := "95986aaf928bd394a965bb33bfdd806c012bd857a5d04f2f036eb617819da58e", func := "fourinhand/fourinhandlaw14.TimerWaits", spec := "timerWaits", apart := false }
def TimerWaitsSaid : Prop := timerWaitsRow.holds Try.pinned (OpenSpec.ofChange timerWaitsSpec)

/-- ITS FALSE NEIGHBOUR: 'it returns false'. Refute it at one input. -/
def timerWaitsWrong : ChangeSpec := { name := "timerWaits", fn := fun _ => fun
  | [d1, d2, d3, d4, d5] => { results := [.lit (.bool false)], args := [d1, d2, d3, d4, d5] }
  | _ => none }
def TimerWaitsWrongFalsely : Prop := timerWaitsRow.holds Try.pinned (OpenSpec.ofChange timerWaitsWrong)

/-- 'fourinhandlaw14.TimerLater': WHATEVER THE INPUT: true; the input reads as it did. -/
def timerLaterSpec : ChangeSpec := { name := "timerLater", fn := fun _ => fun
  | [d1, d2, d3, d4] => { results := [.lit (.bool true)], args := [d1, d2, d3, d4] }
  | _ => none }
def timerLaterRow : OpenClaim := { program := "ytiilmjmgomcipaa", sum := "95986aaf928bd394a965bb33bfdd806c012bd857a5d04f2f036eb617819da58e", func := "fourinhand/fourinhandlaw14.TimerLater", spec := "timerLater", apart := false }
def TimerLaterSaid : Prop := timerLaterRow.holds Try.pinned (OpenSpec.ofChange timerLaterSpec)

/-- ITS FALSE NEIGHBOUR: 'it returns false'. Refute it at one input. -/
def timerLaterWrong : ChangeSpec := { name := "timerLater", fn := fun _ => fun
  | [d1, d2, d3, d4] => { results := [.lit (.bool false)], args := [d1, d2, d3, d4] }
  | _ => none }
def TimerLaterWrongFalsely : Prop := timerLaterRow.holds Try.pinned (OpenSpec.ofChange timerLaterWrong)

/-- 'fourinhandlaw14.TimerTells': WHATEVER THE INPUT: true; the input reads as it did. -/
def timerTellsSpec : ChangeSpec := { name := "timerTells", fn := fun _ => fun
  | [d1, d2, d3, d4, d5, d6] => { results := [.lit (.bool true)], args := [d1, d2, d3, d4, d5, d6] }
  | _ => none }
def timerTellsRow : OpenClaim := { program := "ytiilmjmgomcipaa", sum := "95986aaf928bd394a965bb33bfdd806c012bd857a5d04f2f036eb617819da58e", func := "fourinhand/fourinhandlaw14.TimerTells", spec := "timerTells", apart := false }
def TimerTellsSaid : Prop := timerTellsRow.holds Try.pinned (OpenSpec.ofChange timerTellsSpec)

/-- ITS FALSE NEIGHBOUR: 'it returns false'. Refute it at one input. -/
def timerTellsWrong : ChangeSpec := { name := "timerTells", fn := fun _ => fun
  | [d1, d2, d3, d4, d5, d6] => { results := [.lit (.bool false)], args := [d1, d2, d3, d4, d5, d6] }
  | _ => none }
def TimerTellsWrongFalsely : Prop := timerTellsRow.holds Try.pinned (OpenSpec.ofChange timerTellsWrong)

/-- 'fourinhandlaw14.TimerDue': WHATEVER THE INPUT: true; the input reads as it did. -/
def timerDueSpec : ChangeSpec := { name := "timerDue", fn := fun _ => fun
  | [d1, d2] => { results := [.lit (.bool true)], args := [d1, d2] }
  | _ => none }
def timerDueRow : OpenClaim := { program := "ytiilmjmgomcipaa", sum := "95986aaf928bd394a965bb33bfdd806c012bd857a5d04f2f036eb617819da58e", func := "fourinhand/fourinhandlaw14.TimerDue", spec := "timerDue", apart := false }
def TimerDueSaid : Prop := timerDueRow.holds Try.pinned (OpenSpec.ofChange timerDueSpec)

/-- ITS FALSE NEIGHBOUR: 'it returns false'. Refute it at one input. -/
def timerDueWrong : ChangeSpec := { name := "timerDue", fn := fun _ => fun
  | [d1, d2] => { results := [.lit (.bool false)], args := [d1, d2] }
  | _ => none }
def TimerDueWrongFalsely : Prop := timerDueRow.holds Try.pinned (OpenSpec.ofChange timerDueWrong)

/-- 'fourinhandlaw14.TimerFirst': WHATEVER THE INPUT: true; the input reads as it did. -/
def timerFirstSpec : ChangeSpec := { name := "timerFirst", fn := fun _ => fun
  | [d1, d2] => { results := [.lit (.bool true)], args := [d1, d2] }
  | _ => none }
def timerFirstRow : OpenClaim := { program := "ytiilmjmgomcipaa", sum := "95986aaf928bd394a965bb33bfdd806c012bd857a5d04f2f036eb617819da58e", func := "fourinhand/fourinhandlaw14.TimerFirst", spec := "timerFirst", apart := false }
def TimerFirstSaid : Prop := timerFirstRow.holds Try.pinned (OpenSpec.ofChange timerFirstSpec)

/-- ITS FALSE NEIGHBOUR: 'it returns false'. Refute it at one input. -/
def timerFirstWrong : ChangeSpec := { name := "timerFirst", fn := fun _ => fun
  | [d1, d2] => { results := [.lit (.bool false)], args := [d1, d2] }
  | _ => none }
def TimerFirstWrongFalsely : Prop := timerFirstRow.holds Try.pinned (OpenSpec.ofChange timerFirstWrong)

/- THE SECOND FORM. 'bulk': how many values and letters a reading holds, each counted each time it is reached (what is shared counts as often as it is met; a slice's spare places count too). A statement '..UptoSaid' is the law's where the arguments, and the package variables that the reading takes, are together of bulk at most 1048576: NARROWER than '..Said'. Prove '..Said' where nothing that the law and all that it calls make is longer than what came in: it says more and counts as full. Else prove '..UptoSaid'. A law counts once. -/
mutual
def uptoBulk {H : Type} : DataW H → Nat
  | .lit (.string bytes) => bytes.length + 1
  | .lit _ => 1
  | .nil => 1
  | .ptr d => uptoBulk d + 1
  | .slice elems spare => uptoBulkAll elems + uptoBulkAll spare + 1
  | .agg parts => uptoBulkAll parts + 1
  | .iface _ d => uptoBulk d + 1
  | .map entries => uptoBulkEntries entries + 1
  | .held _ => 1
def uptoBulkAll {H : Type} : List (DataW H) → Nat
  | [] => 0
  | d :: r => uptoBulk d + uptoBulkAll r
def uptoBulkEntries {H : Type} : List (Lit × DataW H) → Nat
  | [] => 0
  | x :: r => uptoBulkEntry x + uptoBulkEntries r
def uptoBulkEntry {H : Type} : Lit × DataW H → Nat
  | (.string bytes, d) => bytes.length + uptoBulk d + 1
  | (_, d) => uptoBulk d + 1
 end
def uptoSmall : (H : Type) → List (DataW H) → Bool := fun _ ds => decide (uptoBulkAll ds ≤ 1048576)
def OpenSpec.upto (s : _root_.Go.ChangeSpec) : _root_.Go.OpenSpec := { _root_.Go.OpenSpec.ofChange s with cond := some uptoSmall }

/-- 'fourinhandlaw14.TimerWaits', WHERE WHAT IT READS IS OF BULK AT MOST 1048576: true; the input reads as it did. -/
def timerWaitsUptoRow : OpenClaim := { program := "ytiilmjmgomcipaa", sum := "95986aaf928bd394a965bb33bfdd806c012bd857a5d04f2f036eb617819da58e", func := "fourinhand/fourinhandlaw14.TimerWaits", spec := "timerWaits", apart := false, narrowed := true }
def TimerWaitsUptoSaid : Prop := timerWaitsUptoRow.holds Try.pinned (OpenSpec.upto timerWaitsSpec)

/-- 'fourinhandlaw14.TimerLater', WHERE WHAT IT READS IS OF BULK AT MOST 1048576: true; the input reads as it did. -/
def timerLaterUptoRow : OpenClaim := { program := "ytiilmjmgomcipaa", sum := "95986aaf928bd394a965bb33bfdd806c012bd857a5d04f2f036eb617819da58e", func := "fourinhand/fourinhandlaw14.TimerLater", spec := "timerLater", apart := false, narrowed := true }
def TimerLaterUptoSaid : Prop := timerLaterUptoRow.holds Try.pinned (OpenSpec.upto timerLaterSpec)

/-- 'fourinhandlaw14.TimerTells', WHERE WHAT IT READS IS OF BULK AT MOST 1048576: true; the input reads as it did. -/
def timerTellsUptoRow : OpenClaim := { program := "ytiilmjmgomcipaa", sum := "95986aaf928bd394a965bb33bfdd806c012bd857a5d04f2f036eb617819da58e", func := "fourinhand/fourinhandlaw14.TimerTells", spec := "timerTells", apart := false, narrowed := true }
def TimerTellsUptoSaid : Prop := timerTellsUptoRow.holds Try.pinned (OpenSpec.upto timerTellsSpec)

/-- 'fourinhandlaw14.TimerDue', WHERE WHAT IT READS IS OF BULK AT MOST 1048576: true; the input reads as it did. -/
def timerDueUptoRow : OpenClaim := { program := "ytiilmjmgomcipaa", sum := "95986aaf928bd394a965bb33bfdd806c012bd857a5d04f2f036eb617819da58e", func := "fourinhand/fourinhandlaw14.TimerDue", spec := "timerDue", apart := false, narrowed := true }
def TimerDueUptoSaid : Prop := timerDueUptoRow.holds Try.pinned (OpenSpec.upto timerDueSpec)

/-- 'fourinhandlaw14.TimerFirst', WHERE WHAT IT READS IS OF BULK AT MOST 1048576: true; the input reads as it did. -/
def timerFirstUptoRow : OpenClaim := { program := "ytiilmjmgomcipaa", sum := "95986aaf928bd394a965bb33bfdd806c012bd857a5d04f2f036eb617819da58e", func := "fourinhand/fourinhandlaw14.TimerFirst", spec := "timerFirst", apart := false, narrowed := true }
def TimerFirstUptoSaid : Prop := timerFirstUptoRow.holds Try.pinned (OpenSpec.upto timerFirstSpec)

end Rows
end Go.Proofs.Ytiilmjmgomcipaa
