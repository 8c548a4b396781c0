/- The walks of layer 5 (raster), the third part: a rectangle filled. -/
import Derived.Test.YtbpcpndiohlchaaRas2
namespace Go.Proofs.Ytbpcpndiohlchaa
open Go.RowKit
set_option linter.unusedVariables false

theorem bounds_meet (r s : R) (h : GoodR r) : (r.x0 ≤ (meetR s r).x0 ∨ (meetR s r) = zeroR) := by
  unfold meetR someR
  split
  · exact .inr rfl
  · simp only [mxI_eq]; exact .inl (by omega)
/-- A row of the meeting lies within the box. -/
theorem meet_row {r s : R} {y : Int} (h1 : (meetR s r).y0 ≤ y) (h2 : y < (meetR s r).y1) (hg : GoodR (meetR s r)) : (meetR s r).x0 < (meetR s r).x1 ∧ hasR r (meetR s r).x0 y = true ∧ (meetR s r).x1 ≤ r.x1 ∧ ∀ x, (meetR s r).x0 ≤ x → x < (meetR s r).x1 → hasR r x y = true ∧ hasR (meetR s r) x y = true := by
  have hne : emptyR (meetR s r) = false := by
    cases he : emptyR (meetR s r)
    · rfl
    · have := hg.zero he
      rw [this] at h1 h2
      simp [zeroR] at h1 h2
      omega
  have k := (emptyR_not _).1 hne
  have hx : ∀ x, (meetR s r).x0 ≤ x → x < (meetR s r).x1 → hasR (meetR s r) x y = true := fun x a b => (hasR_iff _ _ _).2 ⟨a, b, h1, h2⟩
  have hr : ∀ x, (meetR s r).x0 ≤ x → x < (meetR s r).x1 → hasR r x y = true := fun x a b => by
    have := hx x a b
    rw [has_meet, Bool.and_eq_true] at this
    exact this.2
  refine ⟨k.1, hr _ (by omega) k.1, ?_, fun x a b => ⟨hr x a b, hx x a b⟩⟩
  have := (hasR_iff _ _ _).1 (hr ((meetR s r).x1 - 1) (by omega) (by omega))
  omega

end Go.Proofs.Ytbpcpndiohlchaa
