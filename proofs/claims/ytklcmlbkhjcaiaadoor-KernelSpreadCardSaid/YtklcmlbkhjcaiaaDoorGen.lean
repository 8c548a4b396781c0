/- What walks over buffers share: grown rectangles, images cut, a buffer answered out of a variable. -/
import Derived.Test.YtklcmlbkhjcaiaaDoorBlurB
import Derived.Test.YtklcmlbkhjcaiaaDoorK4
import Derived.Test.YtklcmlbkhjcaiaaDoorK5




namespace Go.Proofs.YtklcmlbkhjcaiaaDoor
open Go.RowKit
set_option linter.unusedVariables false

theorem GoodR.width {r : R} (h : GoodR r) {n : Nat} (hn : cntR r ≤ n) : (0 ≤ r.x1 - r.x0 ∧ r.x1 - r.x0 ≤ n) ∧ (0 ≤ r.y1 - r.y0 ∧ r.y1 - r.y0 ≤ n) := by
  have hle := h.le
  have hc := h.cnt
  refine ⟨⟨by omega, ?_⟩, by omega, ?_⟩
  · by_cases e : r.y1 - r.y0 = 0
    · have he : emptyR r = true := (emptyR_iff r).2 (by omega)
      rw [h.zero he]; simp [zeroR]
    · have : (r.x1 - r.x0) * 1 ≤ (r.x1 - r.x0) * (r.y1 - r.y0) := Int.mul_le_mul_of_nonneg_left (by omega) (by omega)
      omega
  · by_cases e : r.x1 - r.x0 = 0
    · have he : emptyR r = true := (emptyR_iff r).2 (by omega)
      rw [h.zero he]; simp [zeroR]
    · have : 1 * (r.y1 - r.y0) ≤ (r.x1 - r.x0) * (r.y1 - r.y0) := Int.mul_le_mul_of_nonneg_right (by omega) (by omega)
      omega
end Go.Proofs.YtklcmlbkhjcaiaaDoor
