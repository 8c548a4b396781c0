/- The walk of layer 10's Merge. -/
import Derived.Test.YtklcmlbkhjcaiaaDoorK12
import Derived.Test.YtklcmlbkhjcaiaaDoorMoveT
import Derived.Deep.RegionHeld3




namespace Go.Proofs.YtklcmlbkhjcaiaaDoor
open Go.RowKit
set_option linter.unusedVariables false

end Go.Proofs.YtklcmlbkhjcaiaaDoor
