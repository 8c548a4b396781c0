/-
  DERIVED. GIVEN WITH THE SEED: THE CARDS: each row of YtklcmlbkhjcaiaaDoorRows.lean that lists a variable, with what it lists TIED to the program's text (the seventh form; the later family's looks); each row that meets fmt, with fmt's text TOLD by the authors' own Lean function (tested against real Go, not proved from fmt's source: count such statements apart). THE CARD IS WHAT COUNTS. Prove the row's statement (the work); the ties are given (YtklcmlbkhjcaiaaDoorTie.lean); close each card by the builder's one call (the guide's Derived/Test/ToyasCard.lean, 'card_holds'). Laid BY PROGRAM, IN A SANDBOX (cutbox-door.mjs). By AI agents, Wed Nov 11 2026. No macro, syntax, notation, axiom, sorry.
-/
import Derived.Test.YtklcmlbkhjcaiaaDoorRows
import GoSem.ClaimSeven
namespace Go.Proofs.YtklcmlbkhjcaiaaDoor
namespace Rows

/-- THE TIED CARD OF 'gouachelaw15.KernelNeed'. -/
def kernelNeedCard : Claim7 := { stood := { row := kernelNeedRow, standIns := [], harness := (true, "2bdff56649d84f05da6fedbdf8c837cff346eaddc2cc1d528b2d331c3dd3e931"), looks := false }, kinds := [], alts := [], laidByText := true, laidKinds := [.data, .data, .data], laidTests := true, laidLooks := .later }
def KernelNeedCardSaid : Prop := Claim7.holds Tryd.pinned (.plain (OpenSpec.ofChange kernelNeedSpec)) kernelNeedCard

/-- THE TIED CARD OF 'gouachelaw15.KernelSpread'. -/
def kernelSpreadCard : Claim7 := { stood := { row := kernelSpreadRow, standIns := [], harness := (true, "2bdff56649d84f05da6fedbdf8c837cff346eaddc2cc1d528b2d331c3dd3e931"), looks := false }, kinds := [], alts := [], laidByText := true, laidKinds := [.data, .data, .data], laidTests := true, laidLooks := .later }
def KernelSpreadCardSaid : Prop := Claim7.holds Tryd.pinned (.plain (OpenSpec.ofChange kernelSpreadSpec)) kernelSpreadCard

/-- THE TIED CARD OF 'gouachelaw15.KernelReach'. -/
def kernelReachCard : Claim7 := { stood := { row := kernelReachRow, standIns := [], harness := (true, "2bdff56649d84f05da6fedbdf8c837cff346eaddc2cc1d528b2d331c3dd3e931"), looks := false }, kinds := [], alts := [], laidByText := true, laidKinds := [.data, .data, .data], laidTests := true, laidLooks := .later }
def KernelReachCardSaid : Prop := Claim7.holds Tryd.pinned (.plain (OpenSpec.ofChange kernelReachSpec)) kernelReachCard

/-- THE TIED CARD OF 'gouachelaw15.KernelKeeps'. -/
def kernelKeepsCard : Claim7 := { stood := { row := kernelKeepsRow, standIns := [], harness := (true, "2bdff56649d84f05da6fedbdf8c837cff346eaddc2cc1d528b2d331c3dd3e931"), looks := false }, kinds := [], alts := [], laidByText := true, laidKinds := [.data, .data, .data], laidTests := true, laidLooks := .later }
def KernelKeepsCardSaid : Prop := Claim7.holds Tryd.pinned (.plain (OpenSpec.ofChange kernelKeepsSpec)) kernelKeepsCard

/-- THE SECOND FORM's CARD OF 'gouachelaw15.KernelNeed'. -/
def kernelNeedUptoCard : Claim7 := { stood := { row := kernelNeedUptoRow, standIns := [], harness := (true, "2bdff56649d84f05da6fedbdf8c837cff346eaddc2cc1d528b2d331c3dd3e931"), looks := false }, kinds := [], alts := [], laidByText := true, laidKinds := [.data, .data, .data], laidTests := true, laidLooks := .later }
def KernelNeedUptoCardSaid : Prop := Claim7.holds Tryd.pinned (.plain (OpenSpec.upto kernelNeedSpec)) kernelNeedUptoCard

/-- THE SECOND FORM's CARD OF 'gouachelaw15.KernelSpread'. -/
def kernelSpreadUptoCard : Claim7 := { stood := { row := kernelSpreadUptoRow, standIns := [], harness := (true, "2bdff56649d84f05da6fedbdf8c837cff346eaddc2cc1d528b2d331c3dd3e931"), looks := false }, kinds := [], alts := [], laidByText := true, laidKinds := [.data, .data, .data], laidTests := true, laidLooks := .later }
def KernelSpreadUptoCardSaid : Prop := Claim7.holds Tryd.pinned (.plain (OpenSpec.upto kernelSpreadSpec)) kernelSpreadUptoCard

/-- THE SECOND FORM's CARD OF 'gouachelaw15.KernelReach'. -/
def kernelReachUptoCard : Claim7 := { stood := { row := kernelReachUptoRow, standIns := [], harness := (true, "2bdff56649d84f05da6fedbdf8c837cff346eaddc2cc1d528b2d331c3dd3e931"), looks := false }, kinds := [], alts := [], laidByText := true, laidKinds := [.data, .data, .data], laidTests := true, laidLooks := .later }
def KernelReachUptoCardSaid : Prop := Claim7.holds Tryd.pinned (.plain (OpenSpec.upto kernelReachSpec)) kernelReachUptoCard

/-- THE SECOND FORM's CARD OF 'gouachelaw15.KernelKeeps'. -/
def kernelKeepsUptoCard : Claim7 := { stood := { row := kernelKeepsUptoRow, standIns := [], harness := (true, "2bdff56649d84f05da6fedbdf8c837cff346eaddc2cc1d528b2d331c3dd3e931"), looks := false }, kinds := [], alts := [], laidByText := true, laidKinds := [.data, .data, .data], laidTests := true, laidLooks := .later }
def KernelKeepsUptoCardSaid : Prop := Claim7.holds Tryd.pinned (.plain (OpenSpec.upto kernelKeepsSpec)) kernelKeepsUptoCard
end Rows
end Go.Proofs.YtklcmlbkhjcaiaaDoor
