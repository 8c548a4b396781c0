/- The walks of windows: the program's and the reference's. -/
import Derived.Test.YtklcmlbkhjcaiaaGreatDoorK4
import Derived.Test.YtklcmlbkhjcaiaaGreatDoorK5



namespace Go.Proofs.YtklcmlbkhjcaiaaGreatDoor
open Go.RowKit
set_option linter.unusedVariables false

/-- A window shows what is in it. -/
theorem copyF_window (r : R) (G : Img) : copyF (someR r) r 0 0 noF G = cutF (someR r) G := by
  funext u v
  unfold copyF cutF
  rw [hasR_some]
  by_cases h : hasR r u v = true
  · rw [if_pos ⟨h, h⟩, if_pos h]; simp
  · rw [if_neg (fun k => h k.1), if_neg h]; rfl
theorem copyF_window' (r : R) (G : Img) : copyF (someR r) (someR r) 0 0 noF G = cutF (someR r) G := by
  funext u v
  unfold copyF cutF
  by_cases h : hasR (someR r) u v = true
  · rw [if_pos ⟨h, h⟩, if_pos h]; simp
  · rw [if_neg (fun k => h k.1), if_neg h]; rfl

end Go.Proofs.YtklcmlbkhjcaiaaGreatDoor
