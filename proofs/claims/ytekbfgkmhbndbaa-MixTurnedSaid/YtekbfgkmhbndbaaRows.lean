/-
  No cell of these rows narrows 'for every input' (looked for: loops, veiled, ifaces, maps, wideKeys, modest, calm, conditions, laid).
  DERIVED. THE GIVEN ROWS OF THIS SEAT. 26 by the template 'for every input the law returns true; each argument reads behind the call as it read before'; 0 by the template 'total and deterministic' (their statements: YtekbfgkmhbndbaaTotals.lean).
  GIVEN WITH THE SEED: the statements are not yours to turn. If you find one false, say at which input.
  Laid BY PROGRAM, IN A SANDBOX (cutbox-rows.mjs): the forced cells as the released guide's own fill.sh prints them over the translation 6887d8825eaffe34… (all of the seat's roots in one cut). By AI agents, Wed Nov 11 2026. No macro, syntax, notation, axiom, sorry.
-/
import Derived.Test.YtekbfgkmhbndbaaChecked
import GoSem.Claim
import GoSem.ClaimJoined
import GoSem.ClaimMapViews
import Derived.JoinedTies
import Derived.KernelRfl
namespace Go.Proofs.Ytekbfgkmhbndbaa
/- THE CELL 'sum', in the pinned program and in every row, IS THE sha256 OF THE DUMP (.gsa) THAT YtekbfgkmhbndbaaProg.lean LOADS. Nothing in Lean hashes anything: it is a label: what it is worth is what the hold of that sum in a sandbox is worth. -/
noncomputable def Try.pinned : Pinned := { name := "ytekbfgkmhbndbaa", sum := "6887d8825eaffe34a638401900f45a6b3c7ced2897e945c1dee70844d012668f", checked := Try.checked }
namespace Rows
def none {H : Type} : Left H := { results := [], args := [] }

/-- 'gouachelaw06.MixComposites': WHATEVER THE INPUT: true; the input reads as it did. -/
def mixCompositesSpec : ChangeSpec := { name := "mixComposites", fn := fun _ => fun
  | [d1, d2, d3] => { results := [.lit (.bool true)], args := [d1, d2, d3] }
  | _ => none }
def mixCompositesRow : OpenClaim := { program := "ytekbfgkmhbndbaa", sum := "6887d8825eaffe34a638401900f45a6b3c7ced2897e945c1dee70844d012668f", func := "gouache/gouachelaw06.MixComposites", spec := "mixComposites", apart := false }
def MixCompositesSaid : Prop := mixCompositesRow.holds Try.pinned (OpenSpec.ofChange mixCompositesSpec)

/-- ITS FALSE NEIGHBOUR: 'it returns false'. Refute it at one input. -/
def mixCompositesWrong : ChangeSpec := { name := "mixComposites", fn := fun _ => fun
  | [d1, d2, d3] => { results := [.lit (.bool false)], args := [d1, d2, d3] }
  | _ => none }
def MixCompositesWrongFalsely : Prop := mixCompositesRow.holds Try.pinned (OpenSpec.ofChange mixCompositesWrong)

/-- 'gouachelaw06.MixBlends': WHATEVER THE INPUT: true; the input reads as it did. -/
def mixBlendsSpec : ChangeSpec := { name := "mixBlends", fn := fun _ => fun
  | [d1, d2, d3, d4] => { results := [.lit (.bool true)], args := [d1, d2, d3, d4] }
  | _ => none }
def mixBlendsRow : OpenClaim := { program := "ytekbfgkmhbndbaa", sum := "6887d8825eaffe34a638401900f45a6b3c7ced2897e945c1dee70844d012668f", func := "gouache/gouachelaw06.MixBlends", spec := "mixBlends", apart := false }
def MixBlendsSaid : Prop := mixBlendsRow.holds Try.pinned (OpenSpec.ofChange mixBlendsSpec)

/-- ITS FALSE NEIGHBOUR: 'it returns false'. Refute it at one input. -/
def mixBlendsWrong : ChangeSpec := { name := "mixBlends", fn := fun _ => fun
  | [d1, d2, d3, d4] => { results := [.lit (.bool false)], args := [d1, d2, d3, d4] }
  | _ => none }
def MixBlendsWrongFalsely : Prop := mixBlendsRow.holds Try.pinned (OpenSpec.ofChange mixBlendsWrong)

/-- 'gouachelaw06.MixNothing': WHATEVER THE INPUT: true; the input reads as it did. -/
def mixNothingSpec : ChangeSpec := { name := "mixNothing", fn := fun _ => fun
  | [d1, d2] => { results := [.lit (.bool true)], args := [d1, d2] }
  | _ => none }
def mixNothingRow : OpenClaim := { program := "ytekbfgkmhbndbaa", sum := "6887d8825eaffe34a638401900f45a6b3c7ced2897e945c1dee70844d012668f", func := "gouache/gouachelaw06.MixNothing", spec := "mixNothing", apart := false }
def MixNothingSaid : Prop := mixNothingRow.holds Try.pinned (OpenSpec.ofChange mixNothingSpec)

/-- ITS FALSE NEIGHBOUR: 'it returns false'. Refute it at one input. -/
def mixNothingWrong : ChangeSpec := { name := "mixNothing", fn := fun _ => fun
  | [d1, d2] => { results := [.lit (.bool false)], args := [d1, d2] }
  | _ => none }
def MixNothingWrongFalsely : Prop := mixNothingRow.holds Try.pinned (OpenSpec.ofChange mixNothingWrong)

/-- 'gouachelaw06.MixTurned': WHATEVER THE INPUT: true; the input reads as it did. -/
def mixTurnedSpec : ChangeSpec := { name := "mixTurned", fn := fun _ => fun
  | [d1, d2, d3] => { results := [.lit (.bool true)], args := [d1, d2, d3] }
  | _ => none }
def mixTurnedRow : OpenClaim := { program := "ytekbfgkmhbndbaa", sum := "6887d8825eaffe34a638401900f45a6b3c7ced2897e945c1dee70844d012668f", func := "gouache/gouachelaw06.MixTurned", spec := "mixTurned", apart := false }
def MixTurnedSaid : Prop := mixTurnedRow.holds Try.pinned (OpenSpec.ofChange mixTurnedSpec)

/-- ITS FALSE NEIGHBOUR: 'it returns false'. Refute it at one input. -/
def mixTurnedWrong : ChangeSpec := { name := "mixTurned", fn := fun _ => fun
  | [d1, d2, d3] => { results := [.lit (.bool false)], args := [d1, d2, d3] }
  | _ => none }
def MixTurnedWrongFalsely : Prop := mixTurnedRow.holds Try.pinned (OpenSpec.ofChange mixTurnedWrong)

/-- 'gouachelaw06.MixFull': WHATEVER THE INPUT: true; the input reads as it did. -/
def mixFullSpec : ChangeSpec := { name := "mixFull", fn := fun _ => fun
  | [d1, d2, d3] => { results := [.lit (.bool true)], args := [d1, d2, d3] }
  | _ => none }
def mixFullRow : OpenClaim := { program := "ytekbfgkmhbndbaa", sum := "6887d8825eaffe34a638401900f45a6b3c7ced2897e945c1dee70844d012668f", func := "gouache/gouachelaw06.MixFull", spec := "mixFull", apart := false }
def MixFullSaid : Prop := mixFullRow.holds Try.pinned (OpenSpec.ofChange mixFullSpec)

/-- ITS FALSE NEIGHBOUR: 'it returns false'. Refute it at one input. -/
def mixFullWrong : ChangeSpec := { name := "mixFull", fn := fun _ => fun
  | [d1, d2, d3] => { results := [.lit (.bool false)], args := [d1, d2, d3] }
  | _ => none }
def MixFullWrongFalsely : Prop := mixFullRow.holds Try.pinned (OpenSpec.ofChange mixFullWrong)

/-- 'gouachelaw06.MixRight': WHATEVER THE INPUT: true; the input reads as it did. -/
def mixRightSpec : ChangeSpec := { name := "mixRight", fn := fun _ => fun
  | [d1, d2, d3, d4] => { results := [.lit (.bool true)], args := [d1, d2, d3, d4] }
  | _ => none }
def mixRightRow : OpenClaim := { program := "ytekbfgkmhbndbaa", sum := "6887d8825eaffe34a638401900f45a6b3c7ced2897e945c1dee70844d012668f", func := "gouache/gouachelaw06.MixRight", spec := "mixRight", apart := false }
def MixRightSaid : Prop := mixRightRow.holds Try.pinned (OpenSpec.ofChange mixRightSpec)

/-- ITS FALSE NEIGHBOUR: 'it returns false'. Refute it at one input. -/
def mixRightWrong : ChangeSpec := { name := "mixRight", fn := fun _ => fun
  | [d1, d2, d3, d4] => { results := [.lit (.bool false)], args := [d1, d2, d3, d4] }
  | _ => none }
def MixRightWrongFalsely : Prop := mixRightRow.holds Try.pinned (OpenSpec.ofChange mixRightWrong)

/-- 'gouachelaw10.MoveTiles': WHATEVER THE INPUT: true; the input reads as it did. -/
def moveTilesSpec : ChangeSpec := { name := "moveTiles", fn := fun _ => fun
  | [d1, d2, d3, d4, d5] => { results := [.lit (.bool true)], args := [d1, d2, d3, d4, d5] }
  | _ => none }
def moveTilesRow : OpenClaim := { program := "ytekbfgkmhbndbaa", sum := "6887d8825eaffe34a638401900f45a6b3c7ced2897e945c1dee70844d012668f", func := "gouache/gouachelaw10.MoveTiles", spec := "moveTiles", apart := false }
def MoveTilesSaid : Prop := moveTilesRow.holds Try.pinned (OpenSpec.ofChange moveTilesSpec)

/-- ITS FALSE NEIGHBOUR: 'it returns false'. Refute it at one input. -/
def moveTilesWrong : ChangeSpec := { name := "moveTiles", fn := fun _ => fun
  | [d1, d2, d3, d4, d5] => { results := [.lit (.bool false)], args := [d1, d2, d3, d4, d5] }
  | _ => none }
def MoveTilesWrongFalsely : Prop := moveTilesRow.holds Try.pinned (OpenSpec.ofChange moveTilesWrong)

/-- 'gouachelaw05.RasterWrites': WHATEVER THE INPUT: true; the input reads as it did. -/
def rasterWritesSpec : ChangeSpec := { name := "rasterWrites", fn := fun _ => fun
  | [d1, d2, d3, d4, d5, d6] => { results := [.lit (.bool true)], args := [d1, d2, d3, d4, d5, d6] }
  | _ => none }
def rasterWritesRow : OpenClaim := { program := "ytekbfgkmhbndbaa", sum := "6887d8825eaffe34a638401900f45a6b3c7ced2897e945c1dee70844d012668f", func := "gouache/gouachelaw05.RasterWrites", spec := "rasterWrites", apart := false }
def RasterWritesSaid : Prop := rasterWritesRow.holds Try.pinned (OpenSpec.ofChange rasterWritesSpec)

/-- ITS FALSE NEIGHBOUR: 'it returns false'. Refute it at one input. -/
def rasterWritesWrong : ChangeSpec := { name := "rasterWrites", fn := fun _ => fun
  | [d1, d2, d3, d4, d5, d6] => { results := [.lit (.bool false)], args := [d1, d2, d3, d4, d5, d6] }
  | _ => none }
def RasterWritesWrongFalsely : Prop := rasterWritesRow.holds Try.pinned (OpenSpec.ofChange rasterWritesWrong)

/-- 'gouachelaw05.RasterKeeps': WHATEVER THE INPUT: true; the input reads as it did. -/
def rasterKeepsSpec : ChangeSpec := { name := "rasterKeeps", fn := fun _ => fun
  | [d1, d2, d3] => { results := [.lit (.bool true)], args := [d1, d2, d3] }
  | _ => none }
def rasterKeepsRow : OpenClaim := { program := "ytekbfgkmhbndbaa", sum := "6887d8825eaffe34a638401900f45a6b3c7ced2897e945c1dee70844d012668f", func := "gouache/gouachelaw05.RasterKeeps", spec := "rasterKeeps", apart := false }
def RasterKeepsSaid : Prop := rasterKeepsRow.holds Try.pinned (OpenSpec.ofChange rasterKeepsSpec)

/-- ITS FALSE NEIGHBOUR: 'it returns false'. Refute it at one input. -/
def rasterKeepsWrong : ChangeSpec := { name := "rasterKeeps", fn := fun _ => fun
  | [d1, d2, d3] => { results := [.lit (.bool false)], args := [d1, d2, d3] }
  | _ => none }
def RasterKeepsWrongFalsely : Prop := rasterKeepsRow.holds Try.pinned (OpenSpec.ofChange rasterKeepsWrong)

/-- 'gouachelaw10.MovePlaces': WHATEVER THE INPUT: true; the input reads as it did. -/
def movePlacesSpec : ChangeSpec := { name := "movePlaces", fn := fun _ => fun
  | [d1, d2, d3, d4, d5, d6] => { results := [.lit (.bool true)], args := [d1, d2, d3, d4, d5, d6] }
  | _ => none }
def movePlacesRow : OpenClaim := { program := "ytekbfgkmhbndbaa", sum := "6887d8825eaffe34a638401900f45a6b3c7ced2897e945c1dee70844d012668f", func := "gouache/gouachelaw10.MovePlaces", spec := "movePlaces", apart := false }
def MovePlacesSaid : Prop := movePlacesRow.holds Try.pinned (OpenSpec.ofChange movePlacesSpec)

/-- ITS FALSE NEIGHBOUR: 'it returns false'. Refute it at one input. -/
def movePlacesWrong : ChangeSpec := { name := "movePlaces", fn := fun _ => fun
  | [d1, d2, d3, d4, d5, d6] => { results := [.lit (.bool false)], args := [d1, d2, d3, d4, d5, d6] }
  | _ => none }
def MovePlacesWrongFalsely : Prop := movePlacesRow.holds Try.pinned (OpenSpec.ofChange movePlacesWrong)

/-- 'gouachelaw08.BlurBoxes': WHATEVER THE INPUT: true; the input reads as it did. -/
def blurBoxesSpec : ChangeSpec := { name := "blurBoxes", fn := fun _ => fun
  | [d1, d2, d3, d4] => { results := [.lit (.bool true)], args := [d1, d2, d3, d4] }
  | _ => none }
def blurBoxesRow : OpenClaim := { program := "ytekbfgkmhbndbaa", sum := "6887d8825eaffe34a638401900f45a6b3c7ced2897e945c1dee70844d012668f", func := "gouache/gouachelaw08.BlurBoxes", spec := "blurBoxes", apart := false }
def BlurBoxesSaid : Prop := blurBoxesRow.holds Try.pinned (OpenSpec.ofChange blurBoxesSpec)

/-- ITS FALSE NEIGHBOUR: 'it returns false'. Refute it at one input. -/
def blurBoxesWrong : ChangeSpec := { name := "blurBoxes", fn := fun _ => fun
  | [d1, d2, d3, d4] => { results := [.lit (.bool false)], args := [d1, d2, d3, d4] }
  | _ => none }
def BlurBoxesWrongFalsely : Prop := blurBoxesRow.holds Try.pinned (OpenSpec.ofChange blurBoxesWrong)

/-- 'gouachelaw08.BlurMeans': WHATEVER THE INPUT: true; the input reads as it did. -/
def blurMeansSpec : ChangeSpec := { name := "blurMeans", fn := fun _ => fun
  | [d1, d2, d3] => { results := [.lit (.bool true)], args := [d1, d2, d3] }
  | _ => none }
def blurMeansRow : OpenClaim := { program := "ytekbfgkmhbndbaa", sum := "6887d8825eaffe34a638401900f45a6b3c7ced2897e945c1dee70844d012668f", func := "gouache/gouachelaw08.BlurMeans", spec := "blurMeans", apart := false }
def BlurMeansSaid : Prop := blurMeansRow.holds Try.pinned (OpenSpec.ofChange blurMeansSpec)

/-- ITS FALSE NEIGHBOUR: 'it returns false'. Refute it at one input. -/
def blurMeansWrong : ChangeSpec := { name := "blurMeans", fn := fun _ => fun
  | [d1, d2, d3] => { results := [.lit (.bool false)], args := [d1, d2, d3] }
  | _ => none }
def BlurMeansWrongFalsely : Prop := blurMeansRow.holds Try.pinned (OpenSpec.ofChange blurMeansWrong)

/-- 'gouachelaw08.BlurRight': WHATEVER THE INPUT: true; the input reads as it did. -/
def blurRightSpec : ChangeSpec := { name := "blurRight", fn := fun _ => fun
  | [d1, d2, d3, d4] => { results := [.lit (.bool true)], args := [d1, d2, d3, d4] }
  | _ => none }
def blurRightRow : OpenClaim := { program := "ytekbfgkmhbndbaa", sum := "6887d8825eaffe34a638401900f45a6b3c7ced2897e945c1dee70844d012668f", func := "gouache/gouachelaw08.BlurRight", spec := "blurRight", apart := false }
def BlurRightSaid : Prop := blurRightRow.holds Try.pinned (OpenSpec.ofChange blurRightSpec)

/-- ITS FALSE NEIGHBOUR: 'it returns false'. Refute it at one input. -/
def blurRightWrong : ChangeSpec := { name := "blurRight", fn := fun _ => fun
  | [d1, d2, d3, d4] => { results := [.lit (.bool false)], args := [d1, d2, d3, d4] }
  | _ => none }
def BlurRightWrongFalsely : Prop := blurRightRow.holds Try.pinned (OpenSpec.ofChange blurRightWrong)

/-- 'gouachelaw08.BlurParts': WHATEVER THE INPUT: true; the input reads as it did. -/
def blurPartsSpec : ChangeSpec := { name := "blurParts", fn := fun _ => fun
  | [d1, d2, d3, d4, d5] => { results := [.lit (.bool true)], args := [d1, d2, d3, d4, d5] }
  | _ => none }
def blurPartsRow : OpenClaim := { program := "ytekbfgkmhbndbaa", sum := "6887d8825eaffe34a638401900f45a6b3c7ced2897e945c1dee70844d012668f", func := "gouache/gouachelaw08.BlurParts", spec := "blurParts", apart := false }
def BlurPartsSaid : Prop := blurPartsRow.holds Try.pinned (OpenSpec.ofChange blurPartsSpec)

/-- ITS FALSE NEIGHBOUR: 'it returns false'. Refute it at one input. -/
def blurPartsWrong : ChangeSpec := { name := "blurParts", fn := fun _ => fun
  | [d1, d2, d3, d4, d5] => { results := [.lit (.bool false)], args := [d1, d2, d3, d4, d5] }
  | _ => none }
def BlurPartsWrongFalsely : Prop := blurPartsRow.holds Try.pinned (OpenSpec.ofChange blurPartsWrong)

/-- 'gouachelaw08.BlurSame': WHATEVER THE INPUT: true; the input reads as it did. -/
def blurSameSpec : ChangeSpec := { name := "blurSame", fn := fun _ => fun
  | [d1, d2, d3] => { results := [.lit (.bool true)], args := [d1, d2, d3] }
  | _ => none }
def blurSameRow : OpenClaim := { program := "ytekbfgkmhbndbaa", sum := "6887d8825eaffe34a638401900f45a6b3c7ced2897e945c1dee70844d012668f", func := "gouache/gouachelaw08.BlurSame", spec := "blurSame", apart := false }
def BlurSameSaid : Prop := blurSameRow.holds Try.pinned (OpenSpec.ofChange blurSameSpec)

/-- ITS FALSE NEIGHBOUR: 'it returns false'. Refute it at one input. -/
def blurSameWrong : ChangeSpec := { name := "blurSame", fn := fun _ => fun
  | [d1, d2, d3] => { results := [.lit (.bool false)], args := [d1, d2, d3] }
  | _ => none }
def BlurSameWrongFalsely : Prop := blurSameRow.holds Try.pinned (OpenSpec.ofChange blurSameWrong)

/-- 'gouachelaw08.BlurKeeps': WHATEVER THE INPUT: true; the input reads as it did. -/
def blurKeepsSpec : ChangeSpec := { name := "blurKeeps", fn := fun _ => fun
  | [d1, d2, d3] => { results := [.lit (.bool true)], args := [d1, d2, d3] }
  | _ => none }
def blurKeepsRow : OpenClaim := { program := "ytekbfgkmhbndbaa", sum := "6887d8825eaffe34a638401900f45a6b3c7ced2897e945c1dee70844d012668f", func := "gouache/gouachelaw08.BlurKeeps", spec := "blurKeeps", apart := false }
def BlurKeepsSaid : Prop := blurKeepsRow.holds Try.pinned (OpenSpec.ofChange blurKeepsSpec)

/-- ITS FALSE NEIGHBOUR: 'it returns false'. Refute it at one input. -/
def blurKeepsWrong : ChangeSpec := { name := "blurKeeps", fn := fun _ => fun
  | [d1, d2, d3] => { results := [.lit (.bool false)], args := [d1, d2, d3] }
  | _ => none }
def BlurKeepsWrongFalsely : Prop := blurKeepsRow.holds Try.pinned (OpenSpec.ofChange blurKeepsWrong)

/-- 'gouachelaw10.MoveMerges': WHATEVER THE INPUT: true; the input reads as it did. -/
def moveMergesSpec : ChangeSpec := { name := "moveMerges", fn := fun _ => fun
  | [d1, d2] => { results := [.lit (.bool true)], args := [d1, d2] }
  | _ => none }
def moveMergesRow : OpenClaim := { program := "ytekbfgkmhbndbaa", sum := "6887d8825eaffe34a638401900f45a6b3c7ced2897e945c1dee70844d012668f", func := "gouache/gouachelaw10.MoveMerges", spec := "moveMerges", apart := false }
def MoveMergesSaid : Prop := moveMergesRow.holds Try.pinned (OpenSpec.ofChange moveMergesSpec)

/-- ITS FALSE NEIGHBOUR: 'it returns false'. Refute it at one input. -/
def moveMergesWrong : ChangeSpec := { name := "moveMerges", fn := fun _ => fun
  | [d1, d2] => { results := [.lit (.bool false)], args := [d1, d2] }
  | _ => none }
def MoveMergesWrongFalsely : Prop := moveMergesRow.holds Try.pinned (OpenSpec.ofChange moveMergesWrong)

/-- 'gouachelaw10.MoveKeeps': WHATEVER THE INPUT: true; the input reads as it did. -/
def moveKeepsSpec : ChangeSpec := { name := "moveKeeps", fn := fun _ => fun
  | [d1, d2] => { results := [.lit (.bool true)], args := [d1, d2] }
  | _ => none }
def moveKeepsRow : OpenClaim := { program := "ytekbfgkmhbndbaa", sum := "6887d8825eaffe34a638401900f45a6b3c7ced2897e945c1dee70844d012668f", func := "gouache/gouachelaw10.MoveKeeps", spec := "moveKeeps", apart := false }
def MoveKeepsSaid : Prop := moveKeepsRow.holds Try.pinned (OpenSpec.ofChange moveKeepsSpec)

/-- ITS FALSE NEIGHBOUR: 'it returns false'. Refute it at one input. -/
def moveKeepsWrong : ChangeSpec := { name := "moveKeeps", fn := fun _ => fun
  | [d1, d2] => { results := [.lit (.bool false)], args := [d1, d2] }
  | _ => none }
def MoveKeepsWrongFalsely : Prop := moveKeepsRow.holds Try.pinned (OpenSpec.ofChange moveKeepsWrong)

/-- 'gouachelaw09.MorphBoxes': WHATEVER THE INPUT: true; the input reads as it did. -/
def morphBoxesSpec : ChangeSpec := { name := "morphBoxes", fn := fun _ => fun
  | [d1, d2, d3, d4] => { results := [.lit (.bool true)], args := [d1, d2, d3, d4] }
  | _ => none }
def morphBoxesRow : OpenClaim := { program := "ytekbfgkmhbndbaa", sum := "6887d8825eaffe34a638401900f45a6b3c7ced2897e945c1dee70844d012668f", func := "gouache/gouachelaw09.MorphBoxes", spec := "morphBoxes", apart := false }
def MorphBoxesSaid : Prop := morphBoxesRow.holds Try.pinned (OpenSpec.ofChange morphBoxesSpec)

/-- ITS FALSE NEIGHBOUR: 'it returns false'. Refute it at one input. -/
def morphBoxesWrong : ChangeSpec := { name := "morphBoxes", fn := fun _ => fun
  | [d1, d2, d3, d4] => { results := [.lit (.bool false)], args := [d1, d2, d3, d4] }
  | _ => none }
def MorphBoxesWrongFalsely : Prop := morphBoxesRow.holds Try.pinned (OpenSpec.ofChange morphBoxesWrong)

/-- 'gouachelaw09.MorphWindows': WHATEVER THE INPUT: true; the input reads as it did. -/
def morphWindowsSpec : ChangeSpec := { name := "morphWindows", fn := fun _ => fun
  | [d1, d2, d3, d4] => { results := [.lit (.bool true)], args := [d1, d2, d3, d4] }
  | _ => none }
def morphWindowsRow : OpenClaim := { program := "ytekbfgkmhbndbaa", sum := "6887d8825eaffe34a638401900f45a6b3c7ced2897e945c1dee70844d012668f", func := "gouache/gouachelaw09.MorphWindows", spec := "morphWindows", apart := false }
def MorphWindowsSaid : Prop := morphWindowsRow.holds Try.pinned (OpenSpec.ofChange morphWindowsSpec)

/-- ITS FALSE NEIGHBOUR: 'it returns false'. Refute it at one input. -/
def morphWindowsWrong : ChangeSpec := { name := "morphWindows", fn := fun _ => fun
  | [d1, d2, d3, d4] => { results := [.lit (.bool false)], args := [d1, d2, d3, d4] }
  | _ => none }
def MorphWindowsWrongFalsely : Prop := morphWindowsRow.holds Try.pinned (OpenSpec.ofChange morphWindowsWrong)

/-- 'gouachelaw09.MorphRight': WHATEVER THE INPUT: true; the input reads as it did. -/
def morphRightSpec : ChangeSpec := { name := "morphRight", fn := fun _ => fun
  | [d1, d2, d3, d4] => { results := [.lit (.bool true)], args := [d1, d2, d3, d4] }
  | _ => none }
def morphRightRow : OpenClaim := { program := "ytekbfgkmhbndbaa", sum := "6887d8825eaffe34a638401900f45a6b3c7ced2897e945c1dee70844d012668f", func := "gouache/gouachelaw09.MorphRight", spec := "morphRight", apart := false }
def MorphRightSaid : Prop := morphRightRow.holds Try.pinned (OpenSpec.ofChange morphRightSpec)

/-- ITS FALSE NEIGHBOUR: 'it returns false'. Refute it at one input. -/
def morphRightWrong : ChangeSpec := { name := "morphRight", fn := fun _ => fun
  | [d1, d2, d3, d4] => { results := [.lit (.bool false)], args := [d1, d2, d3, d4] }
  | _ => none }
def MorphRightWrongFalsely : Prop := morphRightRow.holds Try.pinned (OpenSpec.ofChange morphRightWrong)

/-- 'gouachelaw09.MorphCloses': WHATEVER THE INPUT: true; the input reads as it did. -/
def morphClosesSpec : ChangeSpec := { name := "morphCloses", fn := fun _ => fun
  | [d1, d2, d3, d4] => { results := [.lit (.bool true)], args := [d1, d2, d3, d4] }
  | _ => none }
def morphClosesRow : OpenClaim := { program := "ytekbfgkmhbndbaa", sum := "6887d8825eaffe34a638401900f45a6b3c7ced2897e945c1dee70844d012668f", func := "gouache/gouachelaw09.MorphCloses", spec := "morphCloses", apart := false }
def MorphClosesSaid : Prop := morphClosesRow.holds Try.pinned (OpenSpec.ofChange morphClosesSpec)

/-- ITS FALSE NEIGHBOUR: 'it returns false'. Refute it at one input. -/
def morphClosesWrong : ChangeSpec := { name := "morphCloses", fn := fun _ => fun
  | [d1, d2, d3, d4] => { results := [.lit (.bool false)], args := [d1, d2, d3, d4] }
  | _ => none }
def MorphClosesWrongFalsely : Prop := morphClosesRow.holds Try.pinned (OpenSpec.ofChange morphClosesWrong)

/-- 'gouachelaw09.MorphTwice': WHATEVER THE INPUT: true; the input reads as it did. -/
def morphTwiceSpec : ChangeSpec := { name := "morphTwice", fn := fun _ => fun
  | [d1, d2, d3, d4, d5] => { results := [.lit (.bool true)], args := [d1, d2, d3, d4, d5] }
  | _ => none }
def morphTwiceRow : OpenClaim := { program := "ytekbfgkmhbndbaa", sum := "6887d8825eaffe34a638401900f45a6b3c7ced2897e945c1dee70844d012668f", func := "gouache/gouachelaw09.MorphTwice", spec := "morphTwice", apart := false }
def MorphTwiceSaid : Prop := morphTwiceRow.holds Try.pinned (OpenSpec.ofChange morphTwiceSpec)

/-- ITS FALSE NEIGHBOUR: 'it returns false'. Refute it at one input. -/
def morphTwiceWrong : ChangeSpec := { name := "morphTwice", fn := fun _ => fun
  | [d1, d2, d3, d4, d5] => { results := [.lit (.bool false)], args := [d1, d2, d3, d4, d5] }
  | _ => none }
def MorphTwiceWrongFalsely : Prop := morphTwiceRow.holds Try.pinned (OpenSpec.ofChange morphTwiceWrong)

/-- 'gouachelaw09.MorphKeeps': WHATEVER THE INPUT: true; the input reads as it did. -/
def morphKeepsSpec : ChangeSpec := { name := "morphKeeps", fn := fun _ => fun
  | [d1, d2, d3] => { results := [.lit (.bool true)], args := [d1, d2, d3] }
  | _ => none }
def morphKeepsRow : OpenClaim := { program := "ytekbfgkmhbndbaa", sum := "6887d8825eaffe34a638401900f45a6b3c7ced2897e945c1dee70844d012668f", func := "gouache/gouachelaw09.MorphKeeps", spec := "morphKeeps", apart := false }
def MorphKeepsSaid : Prop := morphKeepsRow.holds Try.pinned (OpenSpec.ofChange morphKeepsSpec)

/-- ITS FALSE NEIGHBOUR: 'it returns false'. Refute it at one input. -/
def morphKeepsWrong : ChangeSpec := { name := "morphKeeps", fn := fun _ => fun
  | [d1, d2, d3] => { results := [.lit (.bool false)], args := [d1, d2, d3] }
  | _ => none }
def MorphKeepsWrongFalsely : Prop := morphKeepsRow.holds Try.pinned (OpenSpec.ofChange morphKeepsWrong)

/-- 'gouachelaw10.MoveShadows': WHATEVER THE INPUT: true; the input reads as it did. -/
def moveShadowsSpec : ChangeSpec := { name := "moveShadows", fn := fun _ => fun
  | [d1, d2, d3, d4, d5, d6, d7] => { results := [.lit (.bool true)], args := [d1, d2, d3, d4, d5, d6, d7] }
  | _ => none }
def moveShadowsRow : OpenClaim := { program := "ytekbfgkmhbndbaa", sum := "6887d8825eaffe34a638401900f45a6b3c7ced2897e945c1dee70844d012668f", func := "gouache/gouachelaw10.MoveShadows", spec := "moveShadows", apart := false }
def MoveShadowsSaid : Prop := moveShadowsRow.holds Try.pinned (OpenSpec.ofChange moveShadowsSpec)

/-- ITS FALSE NEIGHBOUR: 'it returns false'. Refute it at one input. -/
def moveShadowsWrong : ChangeSpec := { name := "moveShadows", fn := fun _ => fun
  | [d1, d2, d3, d4, d5, d6, d7] => { results := [.lit (.bool false)], args := [d1, d2, d3, d4, d5, d6, d7] }
  | _ => none }
def MoveShadowsWrongFalsely : Prop := moveShadowsRow.holds Try.pinned (OpenSpec.ofChange moveShadowsWrong)

/-- 'gouachelaw10.MoveRight': WHATEVER THE INPUT: true; the input reads as it did. -/
def moveRightSpec : ChangeSpec := { name := "moveRight", fn := fun _ => fun
  | [d1, d2, d3, d4, d5, d6] => { results := [.lit (.bool true)], args := [d1, d2, d3, d4, d5, d6] }
  | _ => none }
def moveRightRow : OpenClaim := { program := "ytekbfgkmhbndbaa", sum := "6887d8825eaffe34a638401900f45a6b3c7ced2897e945c1dee70844d012668f", func := "gouache/gouachelaw10.MoveRight", spec := "moveRight", apart := false }
def MoveRightSaid : Prop := moveRightRow.holds Try.pinned (OpenSpec.ofChange moveRightSpec)

/-- ITS FALSE NEIGHBOUR: 'it returns false'. Refute it at one input. -/
def moveRightWrong : ChangeSpec := { name := "moveRight", fn := fun _ => fun
  | [d1, d2, d3, d4, d5, d6] => { results := [.lit (.bool false)], args := [d1, d2, d3, d4, d5, d6] }
  | _ => none }
def MoveRightWrongFalsely : Prop := moveRightRow.holds Try.pinned (OpenSpec.ofChange moveRightWrong)

/- THE SECOND FORM. 'bulk': how many values and letters a reading holds, each counted each time it is reached (what is shared counts as often as it is met; a slice's spare places count too). A statement '..UptoSaid' is the law's where the arguments, and the package variables that the reading takes, are together of bulk at most 1048576: NARROWER than '..Said'. Prove '..Said' where nothing that the law and all that it calls make is longer than what came in: it says more and counts as full. Else prove '..UptoSaid'. A law counts once. -/
mutual
def uptoBulk {H : Type} : DataW H → Nat
  | .lit (.string bytes) => bytes.length + 1
  | .lit _ => 1
  | .nil => 1
  | .ptr d => uptoBulk d + 1
  | .slice elems spare => uptoBulkAll elems + uptoBulkAll spare + 1
  | .agg parts => uptoBulkAll parts + 1
  | .iface _ d => uptoBulk d + 1
  | .map entries => uptoBulkEntries entries + 1
  | .held _ => 1
def uptoBulkAll {H : Type} : List (DataW H) → Nat
  | [] => 0
  | d :: r => uptoBulk d + uptoBulkAll r
def uptoBulkEntries {H : Type} : List (Lit × DataW H) → Nat
  | [] => 0
  | x :: r => uptoBulkEntry x + uptoBulkEntries r
def uptoBulkEntry {H : Type} : Lit × DataW H → Nat
  | (.string bytes, d) => bytes.length + uptoBulk d + 1
  | (_, d) => uptoBulk d + 1
 end
def uptoSmall : (H : Type) → List (DataW H) → Bool := fun _ ds => decide (uptoBulkAll ds ≤ 1048576)
def OpenSpec.upto (s : _root_.Go.ChangeSpec) : _root_.Go.OpenSpec := { _root_.Go.OpenSpec.ofChange s with cond := some uptoSmall }

/-- 'gouachelaw06.MixComposites', WHERE WHAT IT READS IS OF BULK AT MOST 1048576: true; the input reads as it did. -/
def mixCompositesUptoRow : OpenClaim := { program := "ytekbfgkmhbndbaa", sum := "6887d8825eaffe34a638401900f45a6b3c7ced2897e945c1dee70844d012668f", func := "gouache/gouachelaw06.MixComposites", spec := "mixComposites", apart := false, narrowed := true }
def MixCompositesUptoSaid : Prop := mixCompositesUptoRow.holds Try.pinned (OpenSpec.upto mixCompositesSpec)

/-- 'gouachelaw06.MixBlends', WHERE WHAT IT READS IS OF BULK AT MOST 1048576: true; the input reads as it did. -/
def mixBlendsUptoRow : OpenClaim := { program := "ytekbfgkmhbndbaa", sum := "6887d8825eaffe34a638401900f45a6b3c7ced2897e945c1dee70844d012668f", func := "gouache/gouachelaw06.MixBlends", spec := "mixBlends", apart := false, narrowed := true }
def MixBlendsUptoSaid : Prop := mixBlendsUptoRow.holds Try.pinned (OpenSpec.upto mixBlendsSpec)

/-- 'gouachelaw06.MixNothing', WHERE WHAT IT READS IS OF BULK AT MOST 1048576: true; the input reads as it did. -/
def mixNothingUptoRow : OpenClaim := { program := "ytekbfgkmhbndbaa", sum := "6887d8825eaffe34a638401900f45a6b3c7ced2897e945c1dee70844d012668f", func := "gouache/gouachelaw06.MixNothing", spec := "mixNothing", apart := false, narrowed := true }
def MixNothingUptoSaid : Prop := mixNothingUptoRow.holds Try.pinned (OpenSpec.upto mixNothingSpec)

/-- 'gouachelaw06.MixTurned', WHERE WHAT IT READS IS OF BULK AT MOST 1048576: true; the input reads as it did. -/
def mixTurnedUptoRow : OpenClaim := { program := "ytekbfgkmhbndbaa", sum := "6887d8825eaffe34a638401900f45a6b3c7ced2897e945c1dee70844d012668f", func := "gouache/gouachelaw06.MixTurned", spec := "mixTurned", apart := false, narrowed := true }
def MixTurnedUptoSaid : Prop := mixTurnedUptoRow.holds Try.pinned (OpenSpec.upto mixTurnedSpec)

/-- 'gouachelaw06.MixFull', WHERE WHAT IT READS IS OF BULK AT MOST 1048576: true; the input reads as it did. -/
def mixFullUptoRow : OpenClaim := { program := "ytekbfgkmhbndbaa", sum := "6887d8825eaffe34a638401900f45a6b3c7ced2897e945c1dee70844d012668f", func := "gouache/gouachelaw06.MixFull", spec := "mixFull", apart := false, narrowed := true }
def MixFullUptoSaid : Prop := mixFullUptoRow.holds Try.pinned (OpenSpec.upto mixFullSpec)

/-- 'gouachelaw06.MixRight', WHERE WHAT IT READS IS OF BULK AT MOST 1048576: true; the input reads as it did. -/
def mixRightUptoRow : OpenClaim := { program := "ytekbfgkmhbndbaa", sum := "6887d8825eaffe34a638401900f45a6b3c7ced2897e945c1dee70844d012668f", func := "gouache/gouachelaw06.MixRight", spec := "mixRight", apart := false, narrowed := true }
def MixRightUptoSaid : Prop := mixRightUptoRow.holds Try.pinned (OpenSpec.upto mixRightSpec)

/-- 'gouachelaw10.MoveTiles', WHERE WHAT IT READS IS OF BULK AT MOST 1048576: true; the input reads as it did. -/
def moveTilesUptoRow : OpenClaim := { program := "ytekbfgkmhbndbaa", sum := "6887d8825eaffe34a638401900f45a6b3c7ced2897e945c1dee70844d012668f", func := "gouache/gouachelaw10.MoveTiles", spec := "moveTiles", apart := false, narrowed := true }
def MoveTilesUptoSaid : Prop := moveTilesUptoRow.holds Try.pinned (OpenSpec.upto moveTilesSpec)

/-- 'gouachelaw05.RasterWrites', WHERE WHAT IT READS IS OF BULK AT MOST 1048576: true; the input reads as it did. -/
def rasterWritesUptoRow : OpenClaim := { program := "ytekbfgkmhbndbaa", sum := "6887d8825eaffe34a638401900f45a6b3c7ced2897e945c1dee70844d012668f", func := "gouache/gouachelaw05.RasterWrites", spec := "rasterWrites", apart := false, narrowed := true }
def RasterWritesUptoSaid : Prop := rasterWritesUptoRow.holds Try.pinned (OpenSpec.upto rasterWritesSpec)

/-- 'gouachelaw05.RasterKeeps', WHERE WHAT IT READS IS OF BULK AT MOST 1048576: true; the input reads as it did. -/
def rasterKeepsUptoRow : OpenClaim := { program := "ytekbfgkmhbndbaa", sum := "6887d8825eaffe34a638401900f45a6b3c7ced2897e945c1dee70844d012668f", func := "gouache/gouachelaw05.RasterKeeps", spec := "rasterKeeps", apart := false, narrowed := true }
def RasterKeepsUptoSaid : Prop := rasterKeepsUptoRow.holds Try.pinned (OpenSpec.upto rasterKeepsSpec)

/-- 'gouachelaw10.MovePlaces', WHERE WHAT IT READS IS OF BULK AT MOST 1048576: true; the input reads as it did. -/
def movePlacesUptoRow : OpenClaim := { program := "ytekbfgkmhbndbaa", sum := "6887d8825eaffe34a638401900f45a6b3c7ced2897e945c1dee70844d012668f", func := "gouache/gouachelaw10.MovePlaces", spec := "movePlaces", apart := false, narrowed := true }
def MovePlacesUptoSaid : Prop := movePlacesUptoRow.holds Try.pinned (OpenSpec.upto movePlacesSpec)

/-- 'gouachelaw08.BlurBoxes', WHERE WHAT IT READS IS OF BULK AT MOST 1048576: true; the input reads as it did. -/
def blurBoxesUptoRow : OpenClaim := { program := "ytekbfgkmhbndbaa", sum := "6887d8825eaffe34a638401900f45a6b3c7ced2897e945c1dee70844d012668f", func := "gouache/gouachelaw08.BlurBoxes", spec := "blurBoxes", apart := false, narrowed := true }
def BlurBoxesUptoSaid : Prop := blurBoxesUptoRow.holds Try.pinned (OpenSpec.upto blurBoxesSpec)

/-- 'gouachelaw08.BlurMeans', WHERE WHAT IT READS IS OF BULK AT MOST 1048576: true; the input reads as it did. -/
def blurMeansUptoRow : OpenClaim := { program := "ytekbfgkmhbndbaa", sum := "6887d8825eaffe34a638401900f45a6b3c7ced2897e945c1dee70844d012668f", func := "gouache/gouachelaw08.BlurMeans", spec := "blurMeans", apart := false, narrowed := true }
def BlurMeansUptoSaid : Prop := blurMeansUptoRow.holds Try.pinned (OpenSpec.upto blurMeansSpec)

/-- 'gouachelaw08.BlurRight', WHERE WHAT IT READS IS OF BULK AT MOST 1048576: true; the input reads as it did. -/
def blurRightUptoRow : OpenClaim := { program := "ytekbfgkmhbndbaa", sum := "6887d8825eaffe34a638401900f45a6b3c7ced2897e945c1dee70844d012668f", func := "gouache/gouachelaw08.BlurRight", spec := "blurRight", apart := false, narrowed := true }
def BlurRightUptoSaid : Prop := blurRightUptoRow.holds Try.pinned (OpenSpec.upto blurRightSpec)

/-- 'gouachelaw08.BlurParts', WHERE WHAT IT READS IS OF BULK AT MOST 1048576: true; the input reads as it did. -/
def blurPartsUptoRow : OpenClaim := { program := "ytekbfgkmhbndbaa", sum := "6887d8825eaffe34a638401900f45a6b3c7ced2897e945c1dee70844d012668f", func := "gouache/gouachelaw08.BlurParts", spec := "blurParts", apart := false, narrowed := true }
def BlurPartsUptoSaid : Prop := blurPartsUptoRow.holds Try.pinned (OpenSpec.upto blurPartsSpec)

/-- 'gouachelaw08.BlurSame', WHERE WHAT IT READS IS OF BULK AT MOST 1048576: true; the input reads as it did. -/
def blurSameUptoRow : OpenClaim := { program := "ytekbfgkmhbndbaa", sum := "6887d8825eaffe34a638401900f45a6b3c7ced2897e945c1dee70844d012668f", func := "gouache/gouachelaw08.BlurSame", spec := "blurSame", apart := false, narrowed := true }
def BlurSameUptoSaid : Prop := blurSameUptoRow.holds Try.pinned (OpenSpec.upto blurSameSpec)

/-- 'gouachelaw08.BlurKeeps', WHERE WHAT IT READS IS OF BULK AT MOST 1048576: true; the input reads as it did. -/
def blurKeepsUptoRow : OpenClaim := { program := "ytekbfgkmhbndbaa", sum := "6887d8825eaffe34a638401900f45a6b3c7ced2897e945c1dee70844d012668f", func := "gouache/gouachelaw08.BlurKeeps", spec := "blurKeeps", apart := false, narrowed := true }
def BlurKeepsUptoSaid : Prop := blurKeepsUptoRow.holds Try.pinned (OpenSpec.upto blurKeepsSpec)

/-- 'gouachelaw10.MoveMerges', WHERE WHAT IT READS IS OF BULK AT MOST 1048576: true; the input reads as it did. -/
def moveMergesUptoRow : OpenClaim := { program := "ytekbfgkmhbndbaa", sum := "6887d8825eaffe34a638401900f45a6b3c7ced2897e945c1dee70844d012668f", func := "gouache/gouachelaw10.MoveMerges", spec := "moveMerges", apart := false, narrowed := true }
def MoveMergesUptoSaid : Prop := moveMergesUptoRow.holds Try.pinned (OpenSpec.upto moveMergesSpec)

/-- 'gouachelaw10.MoveKeeps', WHERE WHAT IT READS IS OF BULK AT MOST 1048576: true; the input reads as it did. -/
def moveKeepsUptoRow : OpenClaim := { program := "ytekbfgkmhbndbaa", sum := "6887d8825eaffe34a638401900f45a6b3c7ced2897e945c1dee70844d012668f", func := "gouache/gouachelaw10.MoveKeeps", spec := "moveKeeps", apart := false, narrowed := true }
def MoveKeepsUptoSaid : Prop := moveKeepsUptoRow.holds Try.pinned (OpenSpec.upto moveKeepsSpec)

/-- 'gouachelaw09.MorphBoxes', WHERE WHAT IT READS IS OF BULK AT MOST 1048576: true; the input reads as it did. -/
def morphBoxesUptoRow : OpenClaim := { program := "ytekbfgkmhbndbaa", sum := "6887d8825eaffe34a638401900f45a6b3c7ced2897e945c1dee70844d012668f", func := "gouache/gouachelaw09.MorphBoxes", spec := "morphBoxes", apart := false, narrowed := true }
def MorphBoxesUptoSaid : Prop := morphBoxesUptoRow.holds Try.pinned (OpenSpec.upto morphBoxesSpec)

/-- 'gouachelaw09.MorphWindows', WHERE WHAT IT READS IS OF BULK AT MOST 1048576: true; the input reads as it did. -/
def morphWindowsUptoRow : OpenClaim := { program := "ytekbfgkmhbndbaa", sum := "6887d8825eaffe34a638401900f45a6b3c7ced2897e945c1dee70844d012668f", func := "gouache/gouachelaw09.MorphWindows", spec := "morphWindows", apart := false, narrowed := true }
def MorphWindowsUptoSaid : Prop := morphWindowsUptoRow.holds Try.pinned (OpenSpec.upto morphWindowsSpec)

/-- 'gouachelaw09.MorphRight', WHERE WHAT IT READS IS OF BULK AT MOST 1048576: true; the input reads as it did. -/
def morphRightUptoRow : OpenClaim := { program := "ytekbfgkmhbndbaa", sum := "6887d8825eaffe34a638401900f45a6b3c7ced2897e945c1dee70844d012668f", func := "gouache/gouachelaw09.MorphRight", spec := "morphRight", apart := false, narrowed := true }
def MorphRightUptoSaid : Prop := morphRightUptoRow.holds Try.pinned (OpenSpec.upto morphRightSpec)

/-- 'gouachelaw09.MorphCloses', WHERE WHAT IT READS IS OF BULK AT MOST 1048576: true; the input reads as it did. -/
def morphClosesUptoRow : OpenClaim := { program := "ytekbfgkmhbndbaa", sum := "6887d8825eaffe34a638401900f45a6b3c7ced2897e945c1dee70844d012668f", func := "gouache/gouachelaw09.MorphCloses", spec := "morphCloses", apart := false, narrowed := true }
def MorphClosesUptoSaid : Prop := morphClosesUptoRow.holds Try.pinned (OpenSpec.upto morphClosesSpec)

/-- 'gouachelaw09.MorphTwice', WHERE WHAT IT READS IS OF BULK AT MOST 1048576: true; the input reads as it did. -/
def morphTwiceUptoRow : OpenClaim := { program := "ytekbfgkmhbndbaa", sum := "6887d8825eaffe34a638401900f45a6b3c7ced2897e945c1dee70844d012668f", func := "gouache/gouachelaw09.MorphTwice", spec := "morphTwice", apart := false, narrowed := true }
def MorphTwiceUptoSaid : Prop := morphTwiceUptoRow.holds Try.pinned (OpenSpec.upto morphTwiceSpec)

/-- 'gouachelaw09.MorphKeeps', WHERE WHAT IT READS IS OF BULK AT MOST 1048576: true; the input reads as it did. -/
def morphKeepsUptoRow : OpenClaim := { program := "ytekbfgkmhbndbaa", sum := "6887d8825eaffe34a638401900f45a6b3c7ced2897e945c1dee70844d012668f", func := "gouache/gouachelaw09.MorphKeeps", spec := "morphKeeps", apart := false, narrowed := true }
def MorphKeepsUptoSaid : Prop := morphKeepsUptoRow.holds Try.pinned (OpenSpec.upto morphKeepsSpec)

/-- 'gouachelaw10.MoveShadows', WHERE WHAT IT READS IS OF BULK AT MOST 1048576: true; the input reads as it did. -/
def moveShadowsUptoRow : OpenClaim := { program := "ytekbfgkmhbndbaa", sum := "6887d8825eaffe34a638401900f45a6b3c7ced2897e945c1dee70844d012668f", func := "gouache/gouachelaw10.MoveShadows", spec := "moveShadows", apart := false, narrowed := true }
def MoveShadowsUptoSaid : Prop := moveShadowsUptoRow.holds Try.pinned (OpenSpec.upto moveShadowsSpec)

/-- 'gouachelaw10.MoveRight', WHERE WHAT IT READS IS OF BULK AT MOST 1048576: true; the input reads as it did. -/
def moveRightUptoRow : OpenClaim := { program := "ytekbfgkmhbndbaa", sum := "6887d8825eaffe34a638401900f45a6b3c7ced2897e945c1dee70844d012668f", func := "gouache/gouachelaw10.MoveRight", spec := "moveRight", apart := false, narrowed := true }
def MoveRightUptoSaid : Prop := moveRightUptoRow.holds Try.pinned (OpenSpec.upto moveRightSpec)

end Rows
end Go.Proofs.Ytekbfgkmhbndbaa
