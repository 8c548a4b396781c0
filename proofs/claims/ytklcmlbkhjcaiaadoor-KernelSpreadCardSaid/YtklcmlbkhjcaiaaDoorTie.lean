/-
  DERIVED. GIVEN WITH THE SEED: THE PROGRAM's TIES (one call each: nine closed facts by the kernel) AND EACH ROW's TIE, after the 31st guide's Derived/Test/Toyas{Tie, Card}.lean. No idea stands in it: it is a product of the set-up. Laid BY PROGRAM, IN A SANDBOX (cutbox-door.mjs). By AI agents, Wed Nov 11 2026. No macro, syntax, notation, axiom, sorry.
-/
import Derived.Test.YtklcmlbkhjcaiaaDoorRows
import Derived.LaidByTextLater
import Derived.SevenTiedAt
import Derived.LaidSub
import Derived.LaidOnce
namespace Go.Proofs.YtklcmlbkhjcaiaaDoor
open Go
set_option maxRecDepth 100000
theorem seatTie1 : Tryd.prog.laidByTextLater [("gouache/gouacheref12.least", Rows.laid_gouache_gouacheref12_least), ("gouache/gouacheref12.most", Rows.laid_gouache_gouacheref12_most), ("gouache/gouacheref12.params", Rows.laid_gouache_gouacheref12_params)] [.data, .data, .data] true :=
  Program.laidByTextLater_by_one 24 8 14 (by kernel_rfl) (by kernel_rfl) (by kernel_rfl) (by kernel_rfl) (by kernel_rfl) (by kernel_rfl) (fun _ _ => by kernel_rfl)
theorem noOwnUnsafe : Tryd.pinned.checked.prog.headLifts.contains "ownunsafe" = false := by kernel_rfl
theorem tie : Tryd.prog.laidByTextLater [("gouache/gouacheref12.least", Rows.laid_gouache_gouacheref12_least), ("gouache/gouacheref12.most", Rows.laid_gouache_gouacheref12_most), ("gouache/gouacheref12.params", Rows.laid_gouache_gouacheref12_params)] [.data, .data, .data] true :=
  Program.laidByTextLater.sub seatTie1 ["gouache/gouacheref12.least", "gouache/gouacheref12.most", "gouache/gouacheref12.params"] (by kernel_rfl) (by kernel_rfl)
theorem kernelNeed_row_tie : Rows.kernelNeedRow.laidByTextAt .later Tryd.pinned [.data, .data, .data] true :=
  OpenClaim.laidByTextAt_later rfl rfl tie noOwnUnsafe
theorem kernelSpread_row_tie : Rows.kernelSpreadRow.laidByTextAt .later Tryd.pinned [.data, .data, .data] true :=
  OpenClaim.laidByTextAt_later rfl rfl tie noOwnUnsafe
theorem kernelReach_row_tie : Rows.kernelReachRow.laidByTextAt .later Tryd.pinned [.data, .data, .data] true :=
  OpenClaim.laidByTextAt_later rfl rfl tie noOwnUnsafe
theorem kernelKeeps_row_tie : Rows.kernelKeepsRow.laidByTextAt .later Tryd.pinned [.data, .data, .data] true :=
  OpenClaim.laidByTextAt_later rfl rfl tie noOwnUnsafe
theorem kernelNeedUpto_row_tie : Rows.kernelNeedUptoRow.laidByTextAt .later Tryd.pinned [.data, .data, .data] true :=
  OpenClaim.laidByTextAt_later rfl rfl tie noOwnUnsafe
theorem kernelSpreadUpto_row_tie : Rows.kernelSpreadUptoRow.laidByTextAt .later Tryd.pinned [.data, .data, .data] true :=
  OpenClaim.laidByTextAt_later rfl rfl tie noOwnUnsafe
theorem kernelReachUpto_row_tie : Rows.kernelReachUptoRow.laidByTextAt .later Tryd.pinned [.data, .data, .data] true :=
  OpenClaim.laidByTextAt_later rfl rfl tie noOwnUnsafe
theorem kernelKeepsUpto_row_tie : Rows.kernelKeepsUptoRow.laidByTextAt .later Tryd.pinned [.data, .data, .data] true :=
  OpenClaim.laidByTextAt_later rfl rfl tie noOwnUnsafe
end Go.Proofs.YtklcmlbkhjcaiaaDoor
