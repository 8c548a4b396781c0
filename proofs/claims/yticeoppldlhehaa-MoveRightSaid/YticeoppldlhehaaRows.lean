/-
  No cell of these rows narrows 'for every input' (looked for: loops, veiled, ifaces, maps, wideKeys, modest, calm, conditions, laid).
  DERIVED. THE GIVEN ROWS OF THIS SEAT. 6 by the template 'for every input the law returns true; each argument reads behind the call as it read before'; 0 by the template 'total and deterministic' (their statements: YticeoppldlhehaaTotals.lean).
  GIVEN WITH THE SEED: the statements are not yours to turn. If you find one false, say at which input.
  Laid BY PROGRAM, IN A SANDBOX (cutbox-rows.mjs): the forced cells as the released guide's own fill.sh prints them over the translation 798999dd3b1ca099… (all of the seat's roots in one cut). By AI agents, Wed Nov 11 2026. No macro, syntax, notation, axiom, sorry.
-/
import Derived.Test.YticeoppldlhehaaChecked
import GoSem.Claim
import GoSem.ClaimJoined
import GoSem.ClaimMapViews
import Derived.JoinedTies
import Derived.KernelRfl
namespace Go.Proofs.Yticeoppldlhehaa
/- THE CELL 'sum', in the pinned program and in every row, IS THE sha256 OF THE DUMP (.gsa) THAT YticeoppldlhehaaProg.lean LOADS. Nothing in Lean hashes anything: it is a label: what it is worth is what the hold of that sum in a sandbox is worth. -/
noncomputable def Try.pinned : Pinned := { name := "yticeoppldlhehaa", sum := "798999dd3b1ca0993dc7c675aeb95bc8344284f238ed9d535504a3d86518fe38", checked := Try.checked }
namespace Rows
def none {H : Type} : Left H := { results := [], args := [] }

/-- 'gouachelaw10.MoveTiles': WHATEVER THE INPUT: true; the input reads as it did. -/
def moveTilesSpec : ChangeSpec := { name := "moveTiles", fn := fun _ => fun
  | [d1, d2, d3, d4, d5] => { results := [.lit (.bool true)], args := [d1, d2, d3, d4, d5] }
  | _ => none }
def moveTilesRow : OpenClaim := { program := "yticeoppldlhehaa", sum := "798999dd3b1ca0993dc7c675aeb95bc8344284f238ed9d535504a3d86518fe38", func := "gouache/gouachelaw10.MoveTiles", spec := "moveTiles", apart := false }
def MoveTilesSaid : Prop := moveTilesRow.holds Try.pinned (OpenSpec.ofChange moveTilesSpec)

/-- ITS FALSE NEIGHBOUR: 'it returns false'. Refute it at one input. -/
def moveTilesWrong : ChangeSpec := { name := "moveTiles", fn := fun _ => fun
  | [d1, d2, d3, d4, d5] => { results := [.lit (.bool false)], args := [d1, d2, d3, d4, d5] }
  | _ => none }
def MoveTilesWrongFalsely : Prop := moveTilesRow.holds Try.pinned (OpenSpec.ofChange moveTilesWrong)

/-- 'gouachelaw10.MovePlaces': WHATEVER THE INPUT: true; the input reads as it did. -/
def movePlacesSpec : ChangeSpec := { name := "movePlaces", fn := fun _ => fun
  | [d1, d2, d3, d4, d5, d6] => { results := [.lit (.bool true)], args := [d1, d2, d3, d4, d5, d6] }
  | _ => none }
def movePlacesRow : OpenClaim := { program := "yticeoppldlhehaa", sum := "798999dd3b1ca0993dc7c675aeb95bc8344284f238ed9d535504a3d86518fe38", func := "gouache/gouachelaw10.MovePlaces", spec := "movePlaces", apart := false }
def MovePlacesSaid : Prop := movePlacesRow.holds Try.pinned (OpenSpec.ofChange movePlacesSpec)

/-- ITS FALSE NEIGHBOUR: 'it returns false'. Refute it at one input. -/
def movePlacesWrong : ChangeSpec := { name := "movePlaces", fn := fun _ => fun
  | [d1, d2, d3, d4, d5, d6] => { results := [.lit (.bool false)], args := [d1, d2, d3, d4, d5, d6] }
  | _ => none }
def MovePlacesWrongFalsely : Prop := movePlacesRow.holds Try.pinned (OpenSpec.ofChange movePlacesWrong)

/-- 'gouachelaw10.MoveMerges': WHATEVER THE INPUT: true; the input reads as it did. -/
def moveMergesSpec : ChangeSpec := { name := "moveMerges", fn := fun _ => fun
  | [d1, d2] => { results := [.lit (.bool true)], args := [d1, d2] }
  | _ => none }
def moveMergesRow : OpenClaim := { program := "yticeoppldlhehaa", sum := "798999dd3b1ca0993dc7c675aeb95bc8344284f238ed9d535504a3d86518fe38", func := "gouache/gouachelaw10.MoveMerges", spec := "moveMerges", apart := false }
def MoveMergesSaid : Prop := moveMergesRow.holds Try.pinned (OpenSpec.ofChange moveMergesSpec)

/-- ITS FALSE NEIGHBOUR: 'it returns false'. Refute it at one input. -/
def moveMergesWrong : ChangeSpec := { name := "moveMerges", fn := fun _ => fun
  | [d1, d2] => { results := [.lit (.bool false)], args := [d1, d2] }
  | _ => none }
def MoveMergesWrongFalsely : Prop := moveMergesRow.holds Try.pinned (OpenSpec.ofChange moveMergesWrong)

/-- 'gouachelaw10.MoveKeeps': WHATEVER THE INPUT: true; the input reads as it did. -/
def moveKeepsSpec : ChangeSpec := { name := "moveKeeps", fn := fun _ => fun
  | [d1, d2] => { results := [.lit (.bool true)], args := [d1, d2] }
  | _ => none }
def moveKeepsRow : OpenClaim := { program := "yticeoppldlhehaa", sum := "798999dd3b1ca0993dc7c675aeb95bc8344284f238ed9d535504a3d86518fe38", func := "gouache/gouachelaw10.MoveKeeps", spec := "moveKeeps", apart := false }
def MoveKeepsSaid : Prop := moveKeepsRow.holds Try.pinned (OpenSpec.ofChange moveKeepsSpec)

/-- ITS FALSE NEIGHBOUR: 'it returns false'. Refute it at one input. -/
def moveKeepsWrong : ChangeSpec := { name := "moveKeeps", fn := fun _ => fun
  | [d1, d2] => { results := [.lit (.bool false)], args := [d1, d2] }
  | _ => none }
def MoveKeepsWrongFalsely : Prop := moveKeepsRow.holds Try.pinned (OpenSpec.ofChange moveKeepsWrong)

/-- 'gouachelaw10.MoveShadows': WHATEVER THE INPUT: true; the input reads as it did. -/
def moveShadowsSpec : ChangeSpec := { name := "moveShadows", fn := fun _ => fun
  | [d1, d2, d3, d4, d5, d6, d7] => { results := [.lit (.bool true)], args := [d1, d2, d3, d4, d5, d6, d7] }
  | _ => none }
def moveShadowsRow : OpenClaim := { program := "yticeoppldlhehaa", sum := "798999dd3b1ca0993dc7c675aeb95bc8344284f238ed9d535504a3d86518fe38", func := "gouache/gouachelaw10.MoveShadows", spec := "moveShadows", apart := false }
def MoveShadowsSaid : Prop := moveShadowsRow.holds Try.pinned (OpenSpec.ofChange moveShadowsSpec)

/-- ITS FALSE NEIGHBOUR: 'it returns false'. Refute it at one input. -/
def moveShadowsWrong : ChangeSpec := { name := "moveShadows", fn := fun _ => fun
  | [d1, d2, d3, d4, d5, d6, d7] => { results := [.lit (.bool false)], args := [d1, d2, d3, d4, d5, d6, d7] }
  | _ => none }
def MoveShadowsWrongFalsely : Prop := moveShadowsRow.holds Try.pinned (OpenSpec.ofChange moveShadowsWrong)

/-- 'gouachelaw10.MoveRight': WHATEVER THE INPUT: true; the input reads as it did. -/
def moveRightSpec : ChangeSpec := { name := "moveRight", fn := fun _ => fun
  | [d1, d2, d3, d4, d5, d6] => { results := [.lit (.bool true)], args := [d1, d2, d3, d4, d5, d6] }
  | _ => none }
def moveRightRow : OpenClaim := { program := "yticeoppldlhehaa", sum := "798999dd3b1ca0993dc7c675aeb95bc8344284f238ed9d535504a3d86518fe38", func := "gouache/gouachelaw10.MoveRight", spec := "moveRight", apart := false }
def MoveRightSaid : Prop := moveRightRow.holds Try.pinned (OpenSpec.ofChange moveRightSpec)

/-- ITS FALSE NEIGHBOUR: 'it returns false'. Refute it at one input. -/
def moveRightWrong : ChangeSpec := { name := "moveRight", fn := fun _ => fun
  | [d1, d2, d3, d4, d5, d6] => { results := [.lit (.bool false)], args := [d1, d2, d3, d4, d5, d6] }
  | _ => none }
def MoveRightWrongFalsely : Prop := moveRightRow.holds Try.pinned (OpenSpec.ofChange moveRightWrong)

/- THE SECOND FORM. 'bulk': how many values and letters a reading holds, each counted each time it is reached (what is shared counts as often as it is met; a slice's spare places count too). A statement '..UptoSaid' is the law's where the arguments, and the package variables that the reading takes, are together of bulk at most 1048576: NARROWER than '..Said'. Prove '..Said' where nothing that the law and all that it calls make is longer than what came in: it says more and counts as full. Else prove '..UptoSaid'. A law counts once. -/
mutual
def uptoBulk {H : Type} : DataW H → Nat
  | .lit (.string bytes) => bytes.length + 1
  | .lit _ => 1
  | .nil => 1
  | .ptr d => uptoBulk d + 1
  | .slice elems spare => uptoBulkAll elems + uptoBulkAll spare + 1
  | .agg parts => uptoBulkAll parts + 1
  | .iface _ d => uptoBulk d + 1
  | .map entries => uptoBulkEntries entries + 1
  | .held _ => 1
def uptoBulkAll {H : Type} : List (DataW H) → Nat
  | [] => 0
  | d :: r => uptoBulk d + uptoBulkAll r
def uptoBulkEntries {H : Type} : List (Lit × DataW H) → Nat
  | [] => 0
  | x :: r => uptoBulkEntry x + uptoBulkEntries r
def uptoBulkEntry {H : Type} : Lit × DataW H → Nat
  | (.string bytes, d) => bytes.length + uptoBulk d + 1
  | (_, d) => uptoBulk d + 1
 end
def uptoSmall : (H : Type) → List (DataW H) → Bool := fun _ ds => decide (uptoBulkAll ds ≤ 1048576)
def OpenSpec.upto (s : _root_.Go.ChangeSpec) : _root_.Go.OpenSpec := { _root_.Go.OpenSpec.ofChange s with cond := some uptoSmall }

/-- 'gouachelaw10.MoveTiles', WHERE WHAT IT READS IS OF BULK AT MOST 1048576: true; the input reads as it did. -/
def moveTilesUptoRow : OpenClaim := { program := "yticeoppldlhehaa", sum := "798999dd3b1ca0993dc7c675aeb95bc8344284f238ed9d535504a3d86518fe38", func := "gouache/gouachelaw10.MoveTiles", spec := "moveTiles", apart := false, narrowed := true }
def MoveTilesUptoSaid : Prop := moveTilesUptoRow.holds Try.pinned (OpenSpec.upto moveTilesSpec)

/-- 'gouachelaw10.MovePlaces', WHERE WHAT IT READS IS OF BULK AT MOST 1048576: true; the input reads as it did. -/
def movePlacesUptoRow : OpenClaim := { program := "yticeoppldlhehaa", sum := "798999dd3b1ca0993dc7c675aeb95bc8344284f238ed9d535504a3d86518fe38", func := "gouache/gouachelaw10.MovePlaces", spec := "movePlaces", apart := false, narrowed := true }
def MovePlacesUptoSaid : Prop := movePlacesUptoRow.holds Try.pinned (OpenSpec.upto movePlacesSpec)

/-- 'gouachelaw10.MoveMerges', WHERE WHAT IT READS IS OF BULK AT MOST 1048576: true; the input reads as it did. -/
def moveMergesUptoRow : OpenClaim := { program := "yticeoppldlhehaa", sum := "798999dd3b1ca0993dc7c675aeb95bc8344284f238ed9d535504a3d86518fe38", func := "gouache/gouachelaw10.MoveMerges", spec := "moveMerges", apart := false, narrowed := true }
def MoveMergesUptoSaid : Prop := moveMergesUptoRow.holds Try.pinned (OpenSpec.upto moveMergesSpec)

/-- 'gouachelaw10.MoveKeeps', WHERE WHAT IT READS IS OF BULK AT MOST 1048576: true; the input reads as it did. -/
def moveKeepsUptoRow : OpenClaim := { program := "yticeoppldlhehaa", sum := "798999dd3b1ca0993dc7c675aeb95bc8344284f238ed9d535504a3d86518fe38", func := "gouache/gouachelaw10.MoveKeeps", spec := "moveKeeps", apart := false, narrowed := true }
def MoveKeepsUptoSaid : Prop := moveKeepsUptoRow.holds Try.pinned (OpenSpec.upto moveKeepsSpec)

/-- 'gouachelaw10.MoveShadows', WHERE WHAT IT READS IS OF BULK AT MOST 1048576: true; the input reads as it did. -/
def moveShadowsUptoRow : OpenClaim := { program := "yticeoppldlhehaa", sum := "798999dd3b1ca0993dc7c675aeb95bc8344284f238ed9d535504a3d86518fe38", func := "gouache/gouachelaw10.MoveShadows", spec := "moveShadows", apart := false, narrowed := true }
def MoveShadowsUptoSaid : Prop := moveShadowsUptoRow.holds Try.pinned (OpenSpec.upto moveShadowsSpec)

/-- 'gouachelaw10.MoveRight', WHERE WHAT IT READS IS OF BULK AT MOST 1048576: true; the input reads as it did. -/
def moveRightUptoRow : OpenClaim := { program := "yticeoppldlhehaa", sum := "798999dd3b1ca0993dc7c675aeb95bc8344284f238ed9d535504a3d86518fe38", func := "gouache/gouachelaw10.MoveRight", spec := "moveRight", apart := false, narrowed := true }
def MoveRightUptoSaid : Prop := moveRightUptoRow.holds Try.pinned (OpenSpec.upto moveRightSpec)

end Rows
end Go.Proofs.Yticeoppldlhehaa
