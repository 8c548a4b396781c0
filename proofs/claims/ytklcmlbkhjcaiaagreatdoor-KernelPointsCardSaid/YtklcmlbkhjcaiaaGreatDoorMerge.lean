/- The walk of layer 10's Merge. -/
import Derived.Test.YtklcmlbkhjcaiaaGreatDoorK12
import Derived.Test.YtklcmlbkhjcaiaaGreatDoorMoveT
import Derived.Deep.RegionHeld3




namespace Go.Proofs.YtklcmlbkhjcaiaaGreatDoor
open Go.RowKit
set_option linter.unusedVariables false

end Go.Proofs.YtklcmlbkhjcaiaaGreatDoor
