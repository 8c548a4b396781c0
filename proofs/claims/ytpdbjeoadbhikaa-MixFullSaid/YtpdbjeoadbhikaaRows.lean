/-
  No cell of these rows narrows 'for every input' (looked for: loops, veiled, ifaces, maps, wideKeys, modest, calm, conditions, laid).
  DERIVED. THE GIVEN ROWS OF THIS SEAT. 6 by the template 'for every input the law returns true; each argument reads behind the call as it read before'; 0 by the template 'total and deterministic' (their statements: YtpdbjeoadbhikaaTotals.lean).
  GIVEN WITH THE SEED: the statements are not yours to turn. If you find one false, say at which input.
  Laid BY PROGRAM, IN A SANDBOX (cutbox-rows.mjs): the forced cells as the released guide's own fill.sh prints them over the translation ac184301db8c4dc1… (all of the seat's roots in one cut). By AI agents, Wed Nov 11 2026. No macro, syntax, notation, axiom, sorry.
-/
import Derived.Test.YtpdbjeoadbhikaaChecked
import GoSem.Claim
import GoSem.ClaimJoined
import GoSem.ClaimMapViews
import Derived.JoinedTies
import Derived.KernelRfl
namespace Go.Proofs.Ytpdbjeoadbhikaa
/- THE CELL 'sum', in the pinned program and in every row, IS THE sha256 OF THE DUMP (.gsa) THAT YtpdbjeoadbhikaaProg.lean LOADS. Nothing in Lean hashes anything: it is a label: what it is worth is what the hold of that sum in a sandbox is worth. -/
noncomputable def Try.pinned : Pinned := { name := "ytpdbjeoadbhikaa", sum := "ac184301db8c4dc1b4ce84b02245867035057be20b843cfa29eeef1c31f9696f", checked := Try.checked }
namespace Rows
def none {H : Type} : Left H := { results := [], args := [] }

/-- 'gouachelaw06.MixComposites': WHATEVER THE INPUT: true; the input reads as it did. -/
def mixCompositesSpec : ChangeSpec := { name := "mixComposites", fn := fun _ => fun
  | [d1, d2, d3] => { results := [.lit (.bool true)], args := [d1, d2, d3] }
  | _ => none }
def mixCompositesRow : OpenClaim := { program := "ytpdbjeoadbhikaa", sum := "ac184301db8c4dc1b4ce84b02245867035057be20b843cfa29eeef1c31f9696f", func := "gouache/gouachelaw06.MixComposites", spec := "mixComposites", apart := false }
def MixCompositesSaid : Prop := mixCompositesRow.holds Try.pinned (OpenSpec.ofChange mixCompositesSpec)

/-- ITS FALSE NEIGHBOUR: 'it returns false'. Refute it at one input. -/
def mixCompositesWrong : ChangeSpec := { name := "mixComposites", fn := fun _ => fun
  | [d1, d2, d3] => { results := [.lit (.bool false)], args := [d1, d2, d3] }
  | _ => none }
def MixCompositesWrongFalsely : Prop := mixCompositesRow.holds Try.pinned (OpenSpec.ofChange mixCompositesWrong)

/-- 'gouachelaw06.MixBlends': WHATEVER THE INPUT: true; the input reads as it did. -/
def mixBlendsSpec : ChangeSpec := { name := "mixBlends", fn := fun _ => fun
  | [d1, d2, d3, d4] => { results := [.lit (.bool true)], args := [d1, d2, d3, d4] }
  | _ => none }
def mixBlendsRow : OpenClaim := { program := "ytpdbjeoadbhikaa", sum := "ac184301db8c4dc1b4ce84b02245867035057be20b843cfa29eeef1c31f9696f", func := "gouache/gouachelaw06.MixBlends", spec := "mixBlends", apart := false }
def MixBlendsSaid : Prop := mixBlendsRow.holds Try.pinned (OpenSpec.ofChange mixBlendsSpec)

/-- ITS FALSE NEIGHBOUR: 'it returns false'. Refute it at one input. -/
def mixBlendsWrong : ChangeSpec := { name := "mixBlends", fn := fun _ => fun
  | [d1, d2, d3, d4] => { results := [.lit (.bool false)], args := [d1, d2, d3, d4] }
  | _ => none }
def MixBlendsWrongFalsely : Prop := mixBlendsRow.holds Try.pinned (OpenSpec.ofChange mixBlendsWrong)

/-- 'gouachelaw06.MixNothing': WHATEVER THE INPUT: true; the input reads as it did. -/
def mixNothingSpec : ChangeSpec := { name := "mixNothing", fn := fun _ => fun
  | [d1, d2] => { results := [.lit (.bool true)], args := [d1, d2] }
  | _ => none }
def mixNothingRow : OpenClaim := { program := "ytpdbjeoadbhikaa", sum := "ac184301db8c4dc1b4ce84b02245867035057be20b843cfa29eeef1c31f9696f", func := "gouache/gouachelaw06.MixNothing", spec := "mixNothing", apart := false }
def MixNothingSaid : Prop := mixNothingRow.holds Try.pinned (OpenSpec.ofChange mixNothingSpec)

/-- ITS FALSE NEIGHBOUR: 'it returns false'. Refute it at one input. -/
def mixNothingWrong : ChangeSpec := { name := "mixNothing", fn := fun _ => fun
  | [d1, d2] => { results := [.lit (.bool false)], args := [d1, d2] }
  | _ => none }
def MixNothingWrongFalsely : Prop := mixNothingRow.holds Try.pinned (OpenSpec.ofChange mixNothingWrong)

/-- 'gouachelaw06.MixTurned': WHATEVER THE INPUT: true; the input reads as it did. -/
def mixTurnedSpec : ChangeSpec := { name := "mixTurned", fn := fun _ => fun
  | [d1, d2, d3] => { results := [.lit (.bool true)], args := [d1, d2, d3] }
  | _ => none }
def mixTurnedRow : OpenClaim := { program := "ytpdbjeoadbhikaa", sum := "ac184301db8c4dc1b4ce84b02245867035057be20b843cfa29eeef1c31f9696f", func := "gouache/gouachelaw06.MixTurned", spec := "mixTurned", apart := false }
def MixTurnedSaid : Prop := mixTurnedRow.holds Try.pinned (OpenSpec.ofChange mixTurnedSpec)

/-- ITS FALSE NEIGHBOUR: 'it returns false'. Refute it at one input. -/
def mixTurnedWrong : ChangeSpec := { name := "mixTurned", fn := fun _ => fun
  | [d1, d2, d3] => { results := [.lit (.bool false)], args := [d1, d2, d3] }
  | _ => none }
def MixTurnedWrongFalsely : Prop := mixTurnedRow.holds Try.pinned (OpenSpec.ofChange mixTurnedWrong)

/-- 'gouachelaw06.MixFull': WHATEVER THE INPUT: true; the input reads as it did. -/
def mixFullSpec : ChangeSpec := { name := "mixFull", fn := fun _ => fun
  | [d1, d2, d3] => { results := [.lit (.bool true)], args := [d1, d2, d3] }
  | _ => none }
def mixFullRow : OpenClaim := { program := "ytpdbjeoadbhikaa", sum := "ac184301db8c4dc1b4ce84b02245867035057be20b843cfa29eeef1c31f9696f", func := "gouache/gouachelaw06.MixFull", spec := "mixFull", apart := false }
def MixFullSaid : Prop := mixFullRow.holds Try.pinned (OpenSpec.ofChange mixFullSpec)

/-- ITS FALSE NEIGHBOUR: 'it returns false'. Refute it at one input. -/
def mixFullWrong : ChangeSpec := { name := "mixFull", fn := fun _ => fun
  | [d1, d2, d3] => { results := [.lit (.bool false)], args := [d1, d2, d3] }
  | _ => none }
def MixFullWrongFalsely : Prop := mixFullRow.holds Try.pinned (OpenSpec.ofChange mixFullWrong)

/-- 'gouachelaw06.MixRight': WHATEVER THE INPUT: true; the input reads as it did. -/
def mixRightSpec : ChangeSpec := { name := "mixRight", fn := fun _ => fun
  | [d1, d2, d3, d4] => { results := [.lit (.bool true)], args := [d1, d2, d3, d4] }
  | _ => none }
def mixRightRow : OpenClaim := { program := "ytpdbjeoadbhikaa", sum := "ac184301db8c4dc1b4ce84b02245867035057be20b843cfa29eeef1c31f9696f", func := "gouache/gouachelaw06.MixRight", spec := "mixRight", apart := false }
def MixRightSaid : Prop := mixRightRow.holds Try.pinned (OpenSpec.ofChange mixRightSpec)

/-- ITS FALSE NEIGHBOUR: 'it returns false'. Refute it at one input. -/
def mixRightWrong : ChangeSpec := { name := "mixRight", fn := fun _ => fun
  | [d1, d2, d3, d4] => { results := [.lit (.bool false)], args := [d1, d2, d3, d4] }
  | _ => none }
def MixRightWrongFalsely : Prop := mixRightRow.holds Try.pinned (OpenSpec.ofChange mixRightWrong)

/- THE SECOND FORM. 'bulk': how many values and letters a reading holds, each counted each time it is reached (what is shared counts as often as it is met; a slice's spare places count too). A statement '..UptoSaid' is the law's where the arguments, and the package variables that the reading takes, are together of bulk at most 1048576: NARROWER than '..Said'. Prove '..Said' where nothing that the law and all that it calls make is longer than what came in: it says more and counts as full. Else prove '..UptoSaid'. A law counts once. -/
mutual
def uptoBulk {H : Type} : DataW H → Nat
  | .lit (.string bytes) => bytes.length + 1
  | .lit _ => 1
  | .nil => 1
  | .ptr d => uptoBulk d + 1
  | .slice elems spare => uptoBulkAll elems + uptoBulkAll spare + 1
  | .agg parts => uptoBulkAll parts + 1
  | .iface _ d => uptoBulk d + 1
  | .map entries => uptoBulkEntries entries + 1
  | .held _ => 1
def uptoBulkAll {H : Type} : List (DataW H) → Nat
  | [] => 0
  | d :: r => uptoBulk d + uptoBulkAll r
def uptoBulkEntries {H : Type} : List (Lit × DataW H) → Nat
  | [] => 0
  | x :: r => uptoBulkEntry x + uptoBulkEntries r
def uptoBulkEntry {H : Type} : Lit × DataW H → Nat
  | (.string bytes, d) => bytes.length + uptoBulk d + 1
  | (_, d) => uptoBulk d + 1
 end
def uptoSmall : (H : Type) → List (DataW H) → Bool := fun _ ds => decide (uptoBulkAll ds ≤ 1048576)
def OpenSpec.upto (s : _root_.Go.ChangeSpec) : _root_.Go.OpenSpec := { _root_.Go.OpenSpec.ofChange s with cond := some uptoSmall }

/-- 'gouachelaw06.MixComposites', WHERE WHAT IT READS IS OF BULK AT MOST 1048576: true; the input reads as it did. -/
def mixCompositesUptoRow : OpenClaim := { program := "ytpdbjeoadbhikaa", sum := "ac184301db8c4dc1b4ce84b02245867035057be20b843cfa29eeef1c31f9696f", func := "gouache/gouachelaw06.MixComposites", spec := "mixComposites", apart := false, narrowed := true }
def MixCompositesUptoSaid : Prop := mixCompositesUptoRow.holds Try.pinned (OpenSpec.upto mixCompositesSpec)

/-- 'gouachelaw06.MixBlends', WHERE WHAT IT READS IS OF BULK AT MOST 1048576: true; the input reads as it did. -/
def mixBlendsUptoRow : OpenClaim := { program := "ytpdbjeoadbhikaa", sum := "ac184301db8c4dc1b4ce84b02245867035057be20b843cfa29eeef1c31f9696f", func := "gouache/gouachelaw06.MixBlends", spec := "mixBlends", apart := false, narrowed := true }
def MixBlendsUptoSaid : Prop := mixBlendsUptoRow.holds Try.pinned (OpenSpec.upto mixBlendsSpec)

/-- 'gouachelaw06.MixNothing', WHERE WHAT IT READS IS OF BULK AT MOST 1048576: true; the input reads as it did. -/
def mixNothingUptoRow : OpenClaim := { program := "ytpdbjeoadbhikaa", sum := "ac184301db8c4dc1b4ce84b02245867035057be20b843cfa29eeef1c31f9696f", func := "gouache/gouachelaw06.MixNothing", spec := "mixNothing", apart := false, narrowed := true }
def MixNothingUptoSaid : Prop := mixNothingUptoRow.holds Try.pinned (OpenSpec.upto mixNothingSpec)

/-- 'gouachelaw06.MixTurned', WHERE WHAT IT READS IS OF BULK AT MOST 1048576: true; the input reads as it did. -/
def mixTurnedUptoRow : OpenClaim := { program := "ytpdbjeoadbhikaa", sum := "ac184301db8c4dc1b4ce84b02245867035057be20b843cfa29eeef1c31f9696f", func := "gouache/gouachelaw06.MixTurned", spec := "mixTurned", apart := false, narrowed := true }
def MixTurnedUptoSaid : Prop := mixTurnedUptoRow.holds Try.pinned (OpenSpec.upto mixTurnedSpec)

/-- 'gouachelaw06.MixFull', WHERE WHAT IT READS IS OF BULK AT MOST 1048576: true; the input reads as it did. -/
def mixFullUptoRow : OpenClaim := { program := "ytpdbjeoadbhikaa", sum := "ac184301db8c4dc1b4ce84b02245867035057be20b843cfa29eeef1c31f9696f", func := "gouache/gouachelaw06.MixFull", spec := "mixFull", apart := false, narrowed := true }
def MixFullUptoSaid : Prop := mixFullUptoRow.holds Try.pinned (OpenSpec.upto mixFullSpec)

/-- 'gouachelaw06.MixRight', WHERE WHAT IT READS IS OF BULK AT MOST 1048576: true; the input reads as it did. -/
def mixRightUptoRow : OpenClaim := { program := "ytpdbjeoadbhikaa", sum := "ac184301db8c4dc1b4ce84b02245867035057be20b843cfa29eeef1c31f9696f", func := "gouache/gouachelaw06.MixRight", spec := "mixRight", apart := false, narrowed := true }
def MixRightUptoSaid : Prop := mixRightUptoRow.holds Try.pinned (OpenSpec.upto mixRightSpec)

end Rows
end Go.Proofs.Ytpdbjeoadbhikaa
