/-
  DERIVED. GIVEN WITH THE SEED: THE CARDS: each row of YtklcmlbkhjcaiaaGreatDoorRows.lean that lists a variable, with what it lists TIED to the program's text (the seventh form; the later family's looks); each row that meets fmt, with fmt's text TOLD by the authors' own Lean function (tested against real Go, not proved from fmt's source: count such statements apart). THE CARD IS WHAT COUNTS. Prove the row's statement (the work); the ties are given (YtklcmlbkhjcaiaaGreatDoorTie.lean); close each card by the builder's one call (the guide's Derived/Test/ToyasCard.lean, 'card_holds'). Laid BY PROGRAM, IN A SANDBOX (cutbox-door.mjs). By AI agents, Wed Nov 11 2026. No macro, syntax, notation, axiom, sorry.
-/
import Derived.Test.YtklcmlbkhjcaiaaGreatDoorRows
import GoSem.ClaimSeven
namespace Go.Proofs.YtklcmlbkhjcaiaaGreatDoor
namespace Rows

/-- THE TIED CARD OF 'gouachelaw15.KernelDoes'. -/
def kernelDoesCard : Claim7 := { stood := { row := kernelDoesRow, standIns := [], harness := (true, "95f42189cfa09967f219930d04ef1b30e4f0798acb98e61c1dc02354da94b4b6"), looks := false }, kinds := [], alts := [], laidByText := true, laidKinds := [.data, .data, .data], laidTests := true, laidLooks := .later }
def KernelDoesCardSaid : Prop := Claim7.holds Tryz.pinned (.plain (OpenSpec.ofChange kernelDoesSpec)) kernelDoesCard

/-- THE TIED CARD OF 'gouachelaw15.KernelPoints'. -/
def kernelPointsCard : Claim7 := { stood := { row := kernelPointsRow, standIns := [], harness := (true, "95f42189cfa09967f219930d04ef1b30e4f0798acb98e61c1dc02354da94b4b6"), looks := false }, kinds := [], alts := [], laidByText := true, laidKinds := [.data, .data, .data], laidTests := true, laidLooks := .later }
def KernelPointsCardSaid : Prop := Claim7.holds Tryz.pinned (.plain (OpenSpec.ofChange kernelPointsSpec)) kernelPointsCard

/-- THE SECOND FORM's CARD OF 'gouachelaw15.KernelDoes'. -/
def kernelDoesUptoCard : Claim7 := { stood := { row := kernelDoesUptoRow, standIns := [], harness := (true, "95f42189cfa09967f219930d04ef1b30e4f0798acb98e61c1dc02354da94b4b6"), looks := false }, kinds := [], alts := [], laidByText := true, laidKinds := [.data, .data, .data], laidTests := true, laidLooks := .later }
def KernelDoesUptoCardSaid : Prop := Claim7.holds Tryz.pinned (.plain (OpenSpec.upto kernelDoesSpec)) kernelDoesUptoCard

/-- THE SECOND FORM's CARD OF 'gouachelaw15.KernelPoints'. -/
def kernelPointsUptoCard : Claim7 := { stood := { row := kernelPointsUptoRow, standIns := [], harness := (true, "95f42189cfa09967f219930d04ef1b30e4f0798acb98e61c1dc02354da94b4b6"), looks := false }, kinds := [], alts := [], laidByText := true, laidKinds := [.data, .data, .data], laidTests := true, laidLooks := .later }
def KernelPointsUptoCardSaid : Prop := Claim7.holds Tryz.pinned (.plain (OpenSpec.upto kernelPointsSpec)) kernelPointsUptoCard
end Rows
end Go.Proofs.YtklcmlbkhjcaiaaGreatDoor
