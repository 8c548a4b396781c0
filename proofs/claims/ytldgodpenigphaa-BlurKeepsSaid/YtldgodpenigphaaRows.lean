/-
  No cell of these rows narrows 'for every input' (looked for: loops, veiled, ifaces, maps, wideKeys, modest, calm, conditions, laid).
  DERIVED. THE GIVEN ROWS OF THIS SEAT. 8 by the template 'for every input the law returns true; each argument reads behind the call as it read before'; 0 by the template 'total and deterministic' (their statements: YtldgodpenigphaaTotals.lean).
  GIVEN WITH THE SEED: the statements are not yours to turn. If you find one false, say at which input.
  Laid BY PROGRAM, IN A SANDBOX (cutbox-rows.mjs): the forced cells as the released guide's own fill.sh prints them over the translation 161f31f77c597a0b… (all of the seat's roots in one cut). By AI agents, Wed Nov 11 2026. No macro, syntax, notation, axiom, sorry.
-/
import Derived.Test.YtldgodpenigphaaChecked
import GoSem.Claim
import GoSem.ClaimJoined
import GoSem.ClaimMapViews
import Derived.JoinedTies
import Derived.KernelRfl
namespace Go.Proofs.Ytldgodpenigphaa
/- THE CELL 'sum', in the pinned program and in every row, IS THE sha256 OF THE DUMP (.gsa) THAT YtldgodpenigphaaProg.lean LOADS. Nothing in Lean hashes anything: it is a label: what it is worth is what the hold of that sum in a sandbox is worth. -/
noncomputable def Try.pinned : Pinned := { name := "ytldgodpenigphaa", sum := "161f31f77c597a0bfb48d111e5d43aed3ed571723fed8bb159521ed5498bb200", checked := Try.checked }
namespace Rows
def none {H : Type} : Left H := { results := [], args := [] }

/-- 'gouachelaw05.RasterWrites': WHATEVER THE INPUT: true; the input reads as it did. -/
def rasterWritesSpec : ChangeSpec := { name := "rasterWrites", fn := fun _ => fun
  | [d1, d2, d3, d4, d5, d6] => { results := [.lit (.bool true)], args := [d1, d2, d3, d4, d5, d6] }
  | _ => none }
def rasterWritesRow : OpenClaim := { program := "ytldgodpenigphaa", sum := "161f31f77c597a0bfb48d111e5d43aed3ed571723fed8bb159521ed5498bb200", func := "gouache/gouachelaw05.RasterWrites", spec := "rasterWrites", apart := false }
def RasterWritesSaid : Prop := rasterWritesRow.holds Try.pinned (OpenSpec.ofChange rasterWritesSpec)

/-- ITS FALSE NEIGHBOUR: 'it returns false'. Refute it at one input. -/
def rasterWritesWrong : ChangeSpec := { name := "rasterWrites", fn := fun _ => fun
  | [d1, d2, d3, d4, d5, d6] => { results := [.lit (.bool false)], args := [d1, d2, d3, d4, d5, d6] }
  | _ => none }
def RasterWritesWrongFalsely : Prop := rasterWritesRow.holds Try.pinned (OpenSpec.ofChange rasterWritesWrong)

/-- 'gouachelaw05.RasterKeeps': WHATEVER THE INPUT: true; the input reads as it did. -/
def rasterKeepsSpec : ChangeSpec := { name := "rasterKeeps", fn := fun _ => fun
  | [d1, d2, d3] => { results := [.lit (.bool true)], args := [d1, d2, d3] }
  | _ => none }
def rasterKeepsRow : OpenClaim := { program := "ytldgodpenigphaa", sum := "161f31f77c597a0bfb48d111e5d43aed3ed571723fed8bb159521ed5498bb200", func := "gouache/gouachelaw05.RasterKeeps", spec := "rasterKeeps", apart := false }
def RasterKeepsSaid : Prop := rasterKeepsRow.holds Try.pinned (OpenSpec.ofChange rasterKeepsSpec)

/-- ITS FALSE NEIGHBOUR: 'it returns false'. Refute it at one input. -/
def rasterKeepsWrong : ChangeSpec := { name := "rasterKeeps", fn := fun _ => fun
  | [d1, d2, d3] => { results := [.lit (.bool false)], args := [d1, d2, d3] }
  | _ => none }
def RasterKeepsWrongFalsely : Prop := rasterKeepsRow.holds Try.pinned (OpenSpec.ofChange rasterKeepsWrong)

/-- 'gouachelaw08.BlurBoxes': WHATEVER THE INPUT: true; the input reads as it did. -/
def blurBoxesSpec : ChangeSpec := { name := "blurBoxes", fn := fun _ => fun
  | [d1, d2, d3, d4] => { results := [.lit (.bool true)], args := [d1, d2, d3, d4] }
  | _ => none }
def blurBoxesRow : OpenClaim := { program := "ytldgodpenigphaa", sum := "161f31f77c597a0bfb48d111e5d43aed3ed571723fed8bb159521ed5498bb200", func := "gouache/gouachelaw08.BlurBoxes", spec := "blurBoxes", apart := false }
def BlurBoxesSaid : Prop := blurBoxesRow.holds Try.pinned (OpenSpec.ofChange blurBoxesSpec)

/-- ITS FALSE NEIGHBOUR: 'it returns false'. Refute it at one input. -/
def blurBoxesWrong : ChangeSpec := { name := "blurBoxes", fn := fun _ => fun
  | [d1, d2, d3, d4] => { results := [.lit (.bool false)], args := [d1, d2, d3, d4] }
  | _ => none }
def BlurBoxesWrongFalsely : Prop := blurBoxesRow.holds Try.pinned (OpenSpec.ofChange blurBoxesWrong)

/-- 'gouachelaw08.BlurMeans': WHATEVER THE INPUT: true; the input reads as it did. -/
def blurMeansSpec : ChangeSpec := { name := "blurMeans", fn := fun _ => fun
  | [d1, d2, d3] => { results := [.lit (.bool true)], args := [d1, d2, d3] }
  | _ => none }
def blurMeansRow : OpenClaim := { program := "ytldgodpenigphaa", sum := "161f31f77c597a0bfb48d111e5d43aed3ed571723fed8bb159521ed5498bb200", func := "gouache/gouachelaw08.BlurMeans", spec := "blurMeans", apart := false }
def BlurMeansSaid : Prop := blurMeansRow.holds Try.pinned (OpenSpec.ofChange blurMeansSpec)

/-- ITS FALSE NEIGHBOUR: 'it returns false'. Refute it at one input. -/
def blurMeansWrong : ChangeSpec := { name := "blurMeans", fn := fun _ => fun
  | [d1, d2, d3] => { results := [.lit (.bool false)], args := [d1, d2, d3] }
  | _ => none }
def BlurMeansWrongFalsely : Prop := blurMeansRow.holds Try.pinned (OpenSpec.ofChange blurMeansWrong)

/-- 'gouachelaw08.BlurRight': WHATEVER THE INPUT: true; the input reads as it did. -/
def blurRightSpec : ChangeSpec := { name := "blurRight", fn := fun _ => fun
  | [d1, d2, d3, d4] => { results := [.lit (.bool true)], args := [d1, d2, d3, d4] }
  | _ => none }
def blurRightRow : OpenClaim := { program := "ytldgodpenigphaa", sum := "161f31f77c597a0bfb48d111e5d43aed3ed571723fed8bb159521ed5498bb200", func := "gouache/gouachelaw08.BlurRight", spec := "blurRight", apart := false }
def BlurRightSaid : Prop := blurRightRow.holds Try.pinned (OpenSpec.ofChange blurRightSpec)

/-- ITS FALSE NEIGHBOUR: 'it returns false'. Refute it at one input. -/
def blurRightWrong : ChangeSpec := { name := "blurRight", fn := fun _ => fun
  | [d1, d2, d3, d4] => { results := [.lit (.bool false)], args := [d1, d2, d3, d4] }
  | _ => none }
def BlurRightWrongFalsely : Prop := blurRightRow.holds Try.pinned (OpenSpec.ofChange blurRightWrong)

/-- 'gouachelaw08.BlurParts': WHATEVER THE INPUT: true; the input reads as it did. -/
def blurPartsSpec : ChangeSpec := { name := "blurParts", fn := fun _ => fun
  | [d1, d2, d3, d4, d5] => { results := [.lit (.bool true)], args := [d1, d2, d3, d4, d5] }
  | _ => none }
def blurPartsRow : OpenClaim := { program := "ytldgodpenigphaa", sum := "161f31f77c597a0bfb48d111e5d43aed3ed571723fed8bb159521ed5498bb200", func := "gouache/gouachelaw08.BlurParts", spec := "blurParts", apart := false }
def BlurPartsSaid : Prop := blurPartsRow.holds Try.pinned (OpenSpec.ofChange blurPartsSpec)

/-- ITS FALSE NEIGHBOUR: 'it returns false'. Refute it at one input. -/
def blurPartsWrong : ChangeSpec := { name := "blurParts", fn := fun _ => fun
  | [d1, d2, d3, d4, d5] => { results := [.lit (.bool false)], args := [d1, d2, d3, d4, d5] }
  | _ => none }
def BlurPartsWrongFalsely : Prop := blurPartsRow.holds Try.pinned (OpenSpec.ofChange blurPartsWrong)

/-- 'gouachelaw08.BlurSame': WHATEVER THE INPUT: true; the input reads as it did. -/
def blurSameSpec : ChangeSpec := { name := "blurSame", fn := fun _ => fun
  | [d1, d2, d3] => { results := [.lit (.bool true)], args := [d1, d2, d3] }
  | _ => none }
def blurSameRow : OpenClaim := { program := "ytldgodpenigphaa", sum := "161f31f77c597a0bfb48d111e5d43aed3ed571723fed8bb159521ed5498bb200", func := "gouache/gouachelaw08.BlurSame", spec := "blurSame", apart := false }
def BlurSameSaid : Prop := blurSameRow.holds Try.pinned (OpenSpec.ofChange blurSameSpec)

/-- ITS FALSE NEIGHBOUR: 'it returns false'. Refute it at one input. -/
def blurSameWrong : ChangeSpec := { name := "blurSame", fn := fun _ => fun
  | [d1, d2, d3] => { results := [.lit (.bool false)], args := [d1, d2, d3] }
  | _ => none }
def BlurSameWrongFalsely : Prop := blurSameRow.holds Try.pinned (OpenSpec.ofChange blurSameWrong)

/-- 'gouachelaw08.BlurKeeps': WHATEVER THE INPUT: true; the input reads as it did. -/
def blurKeepsSpec : ChangeSpec := { name := "blurKeeps", fn := fun _ => fun
  | [d1, d2, d3] => { results := [.lit (.bool true)], args := [d1, d2, d3] }
  | _ => none }
def blurKeepsRow : OpenClaim := { program := "ytldgodpenigphaa", sum := "161f31f77c597a0bfb48d111e5d43aed3ed571723fed8bb159521ed5498bb200", func := "gouache/gouachelaw08.BlurKeeps", spec := "blurKeeps", apart := false }
def BlurKeepsSaid : Prop := blurKeepsRow.holds Try.pinned (OpenSpec.ofChange blurKeepsSpec)

/-- ITS FALSE NEIGHBOUR: 'it returns false'. Refute it at one input. -/
def blurKeepsWrong : ChangeSpec := { name := "blurKeeps", fn := fun _ => fun
  | [d1, d2, d3] => { results := [.lit (.bool false)], args := [d1, d2, d3] }
  | _ => none }
def BlurKeepsWrongFalsely : Prop := blurKeepsRow.holds Try.pinned (OpenSpec.ofChange blurKeepsWrong)

/- THE SECOND FORM. 'bulk': how many values and letters a reading holds, each counted each time it is reached (what is shared counts as often as it is met; a slice's spare places count too). A statement '..UptoSaid' is the law's where the arguments, and the package variables that the reading takes, are together of bulk at most 1048576: NARROWER than '..Said'. Prove '..Said' where nothing that the law and all that it calls make is longer than what came in: it says more and counts as full. Else prove '..UptoSaid'. A law counts once. -/
mutual
def uptoBulk {H : Type} : DataW H → Nat
  | .lit (.string bytes) => bytes.length + 1
  | .lit _ => 1
  | .nil => 1
  | .ptr d => uptoBulk d + 1
  | .slice elems spare => uptoBulkAll elems + uptoBulkAll spare + 1
  | .agg parts => uptoBulkAll parts + 1
  | .iface _ d => uptoBulk d + 1
  | .map entries => uptoBulkEntries entries + 1
  | .held _ => 1
def uptoBulkAll {H : Type} : List (DataW H) → Nat
  | [] => 0
  | d :: r => uptoBulk d + uptoBulkAll r
def uptoBulkEntries {H : Type} : List (Lit × DataW H) → Nat
  | [] => 0
  | x :: r => uptoBulkEntry x + uptoBulkEntries r
def uptoBulkEntry {H : Type} : Lit × DataW H → Nat
  | (.string bytes, d) => bytes.length + uptoBulk d + 1
  | (_, d) => uptoBulk d + 1
 end
def uptoSmall : (H : Type) → List (DataW H) → Bool := fun _ ds => decide (uptoBulkAll ds ≤ 1048576)
def OpenSpec.upto (s : _root_.Go.ChangeSpec) : _root_.Go.OpenSpec := { _root_.Go.OpenSpec.ofChange s with cond := some uptoSmall }

/-- 'gouachelaw05.RasterWrites', WHERE WHAT IT READS IS OF BULK AT MOST 1048576: true; the input reads as it did. -/
def rasterWritesUptoRow : OpenClaim := { program := "ytldgodpenigphaa", sum := "161f31f77c597a0bfb48d111e5d43aed3ed571723fed8bb159521ed5498bb200", func := "gouache/gouachelaw05.RasterWrites", spec := "rasterWrites", apart := false, narrowed := true }
def RasterWritesUptoSaid : Prop := rasterWritesUptoRow.holds Try.pinned (OpenSpec.upto rasterWritesSpec)

/-- 'gouachelaw05.RasterKeeps', WHERE WHAT IT READS IS OF BULK AT MOST 1048576: true; the input reads as it did. -/
def rasterKeepsUptoRow : OpenClaim := { program := "ytldgodpenigphaa", sum := "161f31f77c597a0bfb48d111e5d43aed3ed571723fed8bb159521ed5498bb200", func := "gouache/gouachelaw05.RasterKeeps", spec := "rasterKeeps", apart := false, narrowed := true }
def RasterKeepsUptoSaid : Prop := rasterKeepsUptoRow.holds Try.pinned (OpenSpec.upto rasterKeepsSpec)

/-- 'gouachelaw08.BlurBoxes', WHERE WHAT IT READS IS OF BULK AT MOST 1048576: true; the input reads as it did. -/
def blurBoxesUptoRow : OpenClaim := { program := "ytldgodpenigphaa", sum := "161f31f77c597a0bfb48d111e5d43aed3ed571723fed8bb159521ed5498bb200", func := "gouache/gouachelaw08.BlurBoxes", spec := "blurBoxes", apart := false, narrowed := true }
def BlurBoxesUptoSaid : Prop := blurBoxesUptoRow.holds Try.pinned (OpenSpec.upto blurBoxesSpec)

/-- 'gouachelaw08.BlurMeans', WHERE WHAT IT READS IS OF BULK AT MOST 1048576: true; the input reads as it did. -/
def blurMeansUptoRow : OpenClaim := { program := "ytldgodpenigphaa", sum := "161f31f77c597a0bfb48d111e5d43aed3ed571723fed8bb159521ed5498bb200", func := "gouache/gouachelaw08.BlurMeans", spec := "blurMeans", apart := false, narrowed := true }
def BlurMeansUptoSaid : Prop := blurMeansUptoRow.holds Try.pinned (OpenSpec.upto blurMeansSpec)

/-- 'gouachelaw08.BlurRight', WHERE WHAT IT READS IS OF BULK AT MOST 1048576: true; the input reads as it did. -/
def blurRightUptoRow : OpenClaim := { program := "ytldgodpenigphaa", sum := "161f31f77c597a0bfb48d111e5d43aed3ed571723fed8bb159521ed5498bb200", func := "gouache/gouachelaw08.BlurRight", spec := "blurRight", apart := false, narrowed := true }
def BlurRightUptoSaid : Prop := blurRightUptoRow.holds Try.pinned (OpenSpec.upto blurRightSpec)

/-- 'gouachelaw08.BlurParts', WHERE WHAT IT READS IS OF BULK AT MOST 1048576: true; the input reads as it did. -/
def blurPartsUptoRow : OpenClaim := { program := "ytldgodpenigphaa", sum := "161f31f77c597a0bfb48d111e5d43aed3ed571723fed8bb159521ed5498bb200", func := "gouache/gouachelaw08.BlurParts", spec := "blurParts", apart := false, narrowed := true }
def BlurPartsUptoSaid : Prop := blurPartsUptoRow.holds Try.pinned (OpenSpec.upto blurPartsSpec)

/-- 'gouachelaw08.BlurSame', WHERE WHAT IT READS IS OF BULK AT MOST 1048576: true; the input reads as it did. -/
def blurSameUptoRow : OpenClaim := { program := "ytldgodpenigphaa", sum := "161f31f77c597a0bfb48d111e5d43aed3ed571723fed8bb159521ed5498bb200", func := "gouache/gouachelaw08.BlurSame", spec := "blurSame", apart := false, narrowed := true }
def BlurSameUptoSaid : Prop := blurSameUptoRow.holds Try.pinned (OpenSpec.upto blurSameSpec)

/-- 'gouachelaw08.BlurKeeps', WHERE WHAT IT READS IS OF BULK AT MOST 1048576: true; the input reads as it did. -/
def blurKeepsUptoRow : OpenClaim := { program := "ytldgodpenigphaa", sum := "161f31f77c597a0bfb48d111e5d43aed3ed571723fed8bb159521ed5498bb200", func := "gouache/gouachelaw08.BlurKeeps", spec := "blurKeeps", apart := false, narrowed := true }
def BlurKeepsUptoSaid : Prop := blurKeepsUptoRow.holds Try.pinned (OpenSpec.upto blurKeepsSpec)

end Rows
end Go.Proofs.Ytldgodpenigphaa
