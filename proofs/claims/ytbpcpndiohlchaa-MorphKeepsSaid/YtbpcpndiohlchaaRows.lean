/-
  No cell of these rows narrows 'for every input' (looked for: loops, veiled, ifaces, maps, wideKeys, modest, calm, conditions, laid).
  DERIVED. THE GIVEN ROWS OF THIS SEAT. 6 by the template 'for every input the law returns true; each argument reads behind the call as it read before'; 0 by the template 'total and deterministic' (their statements: YtbpcpndiohlchaaTotals.lean).
  GIVEN WITH THE SEED: the statements are not yours to turn. If you find one false, say at which input.
  Laid BY PROGRAM, IN A SANDBOX (cutbox-rows.mjs): the forced cells as the released guide's own fill.sh prints them over the translation 125fbf2f6b3ff87f… (all of the seat's roots in one cut). By AI agents, Wed Nov 11 2026. No macro, syntax, notation, axiom, sorry.
-/
import Derived.Test.YtbpcpndiohlchaaChecked
import GoSem.Claim
import GoSem.ClaimJoined
import GoSem.ClaimMapViews
import Derived.JoinedTies
import Derived.KernelRfl
namespace Go.Proofs.Ytbpcpndiohlchaa
/- THE CELL 'sum', in the pinned program and in every row, IS THE sha256 OF THE DUMP (.gsa) THAT YtbpcpndiohlchaaProg.lean LOADS. Nothing in Lean hashes anything: it is a label: what it is worth is what the hold of that sum in a sandbox is worth. -/
noncomputable def Try.pinned : Pinned := { name := "ytbpcpndiohlchaa", sum := "125fbf2f6b3ff87fd60dbf4645f9b7d29436e56275f66a9ca1762994568c8ddb", checked := Try.checked }
namespace Rows
def none {H : Type} : Left H := { results := [], args := [] }

/-- 'gouachelaw09.MorphBoxes': WHATEVER THE INPUT: true; the input reads as it did. -/
def morphBoxesSpec : ChangeSpec := { name := "morphBoxes", fn := fun _ => fun
  | [d1, d2, d3, d4] => { results := [.lit (.bool true)], args := [d1, d2, d3, d4] }
  | _ => none }
def morphBoxesRow : OpenClaim := { program := "ytbpcpndiohlchaa", sum := "125fbf2f6b3ff87fd60dbf4645f9b7d29436e56275f66a9ca1762994568c8ddb", func := "gouache/gouachelaw09.MorphBoxes", spec := "morphBoxes", apart := false }
def MorphBoxesSaid : Prop := morphBoxesRow.holds Try.pinned (OpenSpec.ofChange morphBoxesSpec)

/-- ITS FALSE NEIGHBOUR: 'it returns false'. Refute it at one input. -/
def morphBoxesWrong : ChangeSpec := { name := "morphBoxes", fn := fun _ => fun
  | [d1, d2, d3, d4] => { results := [.lit (.bool false)], args := [d1, d2, d3, d4] }
  | _ => none }
def MorphBoxesWrongFalsely : Prop := morphBoxesRow.holds Try.pinned (OpenSpec.ofChange morphBoxesWrong)

/-- 'gouachelaw09.MorphWindows': WHATEVER THE INPUT: true; the input reads as it did. -/
def morphWindowsSpec : ChangeSpec := { name := "morphWindows", fn := fun _ => fun
  | [d1, d2, d3, d4] => { results := [.lit (.bool true)], args := [d1, d2, d3, d4] }
  | _ => none }
def morphWindowsRow : OpenClaim := { program := "ytbpcpndiohlchaa", sum := "125fbf2f6b3ff87fd60dbf4645f9b7d29436e56275f66a9ca1762994568c8ddb", func := "gouache/gouachelaw09.MorphWindows", spec := "morphWindows", apart := false }
def MorphWindowsSaid : Prop := morphWindowsRow.holds Try.pinned (OpenSpec.ofChange morphWindowsSpec)

/-- ITS FALSE NEIGHBOUR: 'it returns false'. Refute it at one input. -/
def morphWindowsWrong : ChangeSpec := { name := "morphWindows", fn := fun _ => fun
  | [d1, d2, d3, d4] => { results := [.lit (.bool false)], args := [d1, d2, d3, d4] }
  | _ => none }
def MorphWindowsWrongFalsely : Prop := morphWindowsRow.holds Try.pinned (OpenSpec.ofChange morphWindowsWrong)

/-- 'gouachelaw09.MorphRight': WHATEVER THE INPUT: true; the input reads as it did. -/
def morphRightSpec : ChangeSpec := { name := "morphRight", fn := fun _ => fun
  | [d1, d2, d3, d4] => { results := [.lit (.bool true)], args := [d1, d2, d3, d4] }
  | _ => none }
def morphRightRow : OpenClaim := { program := "ytbpcpndiohlchaa", sum := "125fbf2f6b3ff87fd60dbf4645f9b7d29436e56275f66a9ca1762994568c8ddb", func := "gouache/gouachelaw09.MorphRight", spec := "morphRight", apart := false }
def MorphRightSaid : Prop := morphRightRow.holds Try.pinned (OpenSpec.ofChange morphRightSpec)

/-- ITS FALSE NEIGHBOUR: 'it returns false'. Refute it at one input. -/
def morphRightWrong : ChangeSpec := { name := "morphRight", fn := fun _ => fun
  | [d1, d2, d3, d4] => { results := [.lit (.bool false)], args := [d1, d2, d3, d4] }
  | _ => none }
def MorphRightWrongFalsely : Prop := morphRightRow.holds Try.pinned (OpenSpec.ofChange morphRightWrong)

/-- 'gouachelaw09.MorphCloses': WHATEVER THE INPUT: true; the input reads as it did. -/
def morphClosesSpec : ChangeSpec := { name := "morphCloses", fn := fun _ => fun
  | [d1, d2, d3, d4] => { results := [.lit (.bool true)], args := [d1, d2, d3, d4] }
  | _ => none }
def morphClosesRow : OpenClaim := { program := "ytbpcpndiohlchaa", sum := "125fbf2f6b3ff87fd60dbf4645f9b7d29436e56275f66a9ca1762994568c8ddb", func := "gouache/gouachelaw09.MorphCloses", spec := "morphCloses", apart := false }
def MorphClosesSaid : Prop := morphClosesRow.holds Try.pinned (OpenSpec.ofChange morphClosesSpec)

/-- ITS FALSE NEIGHBOUR: 'it returns false'. Refute it at one input. -/
def morphClosesWrong : ChangeSpec := { name := "morphCloses", fn := fun _ => fun
  | [d1, d2, d3, d4] => { results := [.lit (.bool false)], args := [d1, d2, d3, d4] }
  | _ => none }
def MorphClosesWrongFalsely : Prop := morphClosesRow.holds Try.pinned (OpenSpec.ofChange morphClosesWrong)

/-- 'gouachelaw09.MorphTwice': WHATEVER THE INPUT: true; the input reads as it did. -/
def morphTwiceSpec : ChangeSpec := { name := "morphTwice", fn := fun _ => fun
  | [d1, d2, d3, d4, d5] => { results := [.lit (.bool true)], args := [d1, d2, d3, d4, d5] }
  | _ => none }
def morphTwiceRow : OpenClaim := { program := "ytbpcpndiohlchaa", sum := "125fbf2f6b3ff87fd60dbf4645f9b7d29436e56275f66a9ca1762994568c8ddb", func := "gouache/gouachelaw09.MorphTwice", spec := "morphTwice", apart := false }
def MorphTwiceSaid : Prop := morphTwiceRow.holds Try.pinned (OpenSpec.ofChange morphTwiceSpec)

/-- ITS FALSE NEIGHBOUR: 'it returns false'. Refute it at one input. -/
def morphTwiceWrong : ChangeSpec := { name := "morphTwice", fn := fun _ => fun
  | [d1, d2, d3, d4, d5] => { results := [.lit (.bool false)], args := [d1, d2, d3, d4, d5] }
  | _ => none }
def MorphTwiceWrongFalsely : Prop := morphTwiceRow.holds Try.pinned (OpenSpec.ofChange morphTwiceWrong)

/-- 'gouachelaw09.MorphKeeps': WHATEVER THE INPUT: true; the input reads as it did. -/
def morphKeepsSpec : ChangeSpec := { name := "morphKeeps", fn := fun _ => fun
  | [d1, d2, d3] => { results := [.lit (.bool true)], args := [d1, d2, d3] }
  | _ => none }
def morphKeepsRow : OpenClaim := { program := "ytbpcpndiohlchaa", sum := "125fbf2f6b3ff87fd60dbf4645f9b7d29436e56275f66a9ca1762994568c8ddb", func := "gouache/gouachelaw09.MorphKeeps", spec := "morphKeeps", apart := false }
def MorphKeepsSaid : Prop := morphKeepsRow.holds Try.pinned (OpenSpec.ofChange morphKeepsSpec)

/-- ITS FALSE NEIGHBOUR: 'it returns false'. Refute it at one input. -/
def morphKeepsWrong : ChangeSpec := { name := "morphKeeps", fn := fun _ => fun
  | [d1, d2, d3] => { results := [.lit (.bool false)], args := [d1, d2, d3] }
  | _ => none }
def MorphKeepsWrongFalsely : Prop := morphKeepsRow.holds Try.pinned (OpenSpec.ofChange morphKeepsWrong)

/- THE SECOND FORM. 'bulk': how many values and letters a reading holds, each counted each time it is reached (what is shared counts as often as it is met; a slice's spare places count too). A statement '..UptoSaid' is the law's where the arguments, and the package variables that the reading takes, are together of bulk at most 1048576: NARROWER than '..Said'. Prove '..Said' where nothing that the law and all that it calls make is longer than what came in: it says more and counts as full. Else prove '..UptoSaid'. A law counts once. -/
mutual
def uptoBulk {H : Type} : DataW H → Nat
  | .lit (.string bytes) => bytes.length + 1
  | .lit _ => 1
  | .nil => 1
  | .ptr d => uptoBulk d + 1
  | .slice elems spare => uptoBulkAll elems + uptoBulkAll spare + 1
  | .agg parts => uptoBulkAll parts + 1
  | .iface _ d => uptoBulk d + 1
  | .map entries => uptoBulkEntries entries + 1
  | .held _ => 1
def uptoBulkAll {H : Type} : List (DataW H) → Nat
  | [] => 0
  | d :: r => uptoBulk d + uptoBulkAll r
def uptoBulkEntries {H : Type} : List (Lit × DataW H) → Nat
  | [] => 0
  | x :: r => uptoBulkEntry x + uptoBulkEntries r
def uptoBulkEntry {H : Type} : Lit × DataW H → Nat
  | (.string bytes, d) => bytes.length + uptoBulk d + 1
  | (_, d) => uptoBulk d + 1
 end
def uptoSmall : (H : Type) → List (DataW H) → Bool := fun _ ds => decide (uptoBulkAll ds ≤ 1048576)
def OpenSpec.upto (s : _root_.Go.ChangeSpec) : _root_.Go.OpenSpec := { _root_.Go.OpenSpec.ofChange s with cond := some uptoSmall }

/-- 'gouachelaw09.MorphBoxes', WHERE WHAT IT READS IS OF BULK AT MOST 1048576: true; the input reads as it did. -/
def morphBoxesUptoRow : OpenClaim := { program := "ytbpcpndiohlchaa", sum := "125fbf2f6b3ff87fd60dbf4645f9b7d29436e56275f66a9ca1762994568c8ddb", func := "gouache/gouachelaw09.MorphBoxes", spec := "morphBoxes", apart := false, narrowed := true }
def MorphBoxesUptoSaid : Prop := morphBoxesUptoRow.holds Try.pinned (OpenSpec.upto morphBoxesSpec)

/-- 'gouachelaw09.MorphWindows', WHERE WHAT IT READS IS OF BULK AT MOST 1048576: true; the input reads as it did. -/
def morphWindowsUptoRow : OpenClaim := { program := "ytbpcpndiohlchaa", sum := "125fbf2f6b3ff87fd60dbf4645f9b7d29436e56275f66a9ca1762994568c8ddb", func := "gouache/gouachelaw09.MorphWindows", spec := "morphWindows", apart := false, narrowed := true }
def MorphWindowsUptoSaid : Prop := morphWindowsUptoRow.holds Try.pinned (OpenSpec.upto morphWindowsSpec)

/-- 'gouachelaw09.MorphRight', WHERE WHAT IT READS IS OF BULK AT MOST 1048576: true; the input reads as it did. -/
def morphRightUptoRow : OpenClaim := { program := "ytbpcpndiohlchaa", sum := "125fbf2f6b3ff87fd60dbf4645f9b7d29436e56275f66a9ca1762994568c8ddb", func := "gouache/gouachelaw09.MorphRight", spec := "morphRight", apart := false, narrowed := true }
def MorphRightUptoSaid : Prop := morphRightUptoRow.holds Try.pinned (OpenSpec.upto morphRightSpec)

/-- 'gouachelaw09.MorphCloses', WHERE WHAT IT READS IS OF BULK AT MOST 1048576: true; the input reads as it did. -/
def morphClosesUptoRow : OpenClaim := { program := "ytbpcpndiohlchaa", sum := "125fbf2f6b3ff87fd60dbf4645f9b7d29436e56275f66a9ca1762994568c8ddb", func := "gouache/gouachelaw09.MorphCloses", spec := "morphCloses", apart := false, narrowed := true }
def MorphClosesUptoSaid : Prop := morphClosesUptoRow.holds Try.pinned (OpenSpec.upto morphClosesSpec)

/-- 'gouachelaw09.MorphTwice', WHERE WHAT IT READS IS OF BULK AT MOST 1048576: true; the input reads as it did. -/
def morphTwiceUptoRow : OpenClaim := { program := "ytbpcpndiohlchaa", sum := "125fbf2f6b3ff87fd60dbf4645f9b7d29436e56275f66a9ca1762994568c8ddb", func := "gouache/gouachelaw09.MorphTwice", spec := "morphTwice", apart := false, narrowed := true }
def MorphTwiceUptoSaid : Prop := morphTwiceUptoRow.holds Try.pinned (OpenSpec.upto morphTwiceSpec)

/-- 'gouachelaw09.MorphKeeps', WHERE WHAT IT READS IS OF BULK AT MOST 1048576: true; the input reads as it did. -/
def morphKeepsUptoRow : OpenClaim := { program := "ytbpcpndiohlchaa", sum := "125fbf2f6b3ff87fd60dbf4645f9b7d29436e56275f66a9ca1762994568c8ddb", func := "gouache/gouachelaw09.MorphKeeps", spec := "morphKeeps", apart := false, narrowed := true }
def MorphKeepsUptoSaid : Prop := morphKeepsUptoRow.holds Try.pinned (OpenSpec.upto morphKeepsSpec)

end Rows
end Go.Proofs.Ytbpcpndiohlchaa
