/- The walks of the reference of layer 8: Box, Fine. -/
import Derived.Test.YtklcmlbkhjcaiaaDoorK16
import Derived.Test.YtklcmlbkhjcaiaaDoorBlurB
import Derived.Deep.RegionHeld3




namespace Go.Proofs.YtklcmlbkhjcaiaaDoor
open Go.RowKit
set_option linter.unusedVariables false


end Go.Proofs.YtklcmlbkhjcaiaaDoor
