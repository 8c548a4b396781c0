/- Moved there and back; a shadow of nothing; a shadow of what is right: plain facts. -/
import Derived.Test.YtklcmlbkhjcaiaaGreatDoorMoveU
import Derived.Test.YtklcmlbkhjcaiaaGreatDoorLaw10A



namespace Go.Proofs.YtklcmlbkhjcaiaaGreatDoor
set_option linter.unusedVariables false

/-- Where a rectangle comes to. -/
def farR (s : R) (a b : Int) : R := ⟨s.x0 + a, s.y0 + b, s.x1 + a, s.y1 + b⟩
/-- Moved there and back. -/
theorem move_back (s : R) (dx dy : Int) (F : Img) : moveF s (-dx) (-dy) (moveF (farR s dx dy) dx dy F) = cutF (someR s) F := by
  funext u v
  unfold moveF copyF cutF
  simp only [hasR_some, and_self]
  by_cases h : hasR s u v = true
  · have k := (hasR_iff _ _ _).1 h
    have h2 : hasR (farR s dx dy) (u - -dx) (v - -dy) = true := (hasR_iff _ _ _).2 (by simp only [farR]; omega)
    rw [if_pos h, if_pos h2, if_pos h, show u - -dx - dx = u from by omega, show v - -dy - dy = v from by omega]
  · rw [if_neg h, if_neg h]
    rfl
theorem boxF_ok {F : Img} (h : ∀ x y, okP (F x y)) (b : R) {rx ry : Int} (hx : 0 ≤ rx) (hy : 0 ≤ ry) (x y : Int) : okP (boxF b rx ry F x y) :=
  cutF_ok (blurV_ok (cutF_ok (blurH_ok h hx) _) hy) _ x y
theorem scaleP_none (k : Int) : scaleP noP k = noP := by
  unfold scaleP noP
  simp only [mulT_0l]
/-- A shadow of nothing. -/
theorem shadow_none {F : Img} (h : ∀ x y, okP (F x y)) (b : R) (dx dy rx ry : Int) : shadowF b dx dy rx ry noP F = cutF (someR b) F := by
  have e : ∀ S, shadeP S F dx dy noP = F := fun S => by
    funext x y
    unfold shadeP
    rw [scaleP_none]
    exact compP_none_under 0 (F x y) (.inl rfl) (h x y)
  unfold shadowF
  rw [e]
/-- A shadow of what is right is right. -/
theorem shadow_right {F : Img} (h : ∀ x y, okP (F x y)) (hr : ∀ x y, rightP (F x y)) {p : P4} (hp : okP p) (rp : rightP p) (b : R) (dx dy : Int) {rx ry : Int} (hx : 0 ≤ rx) (hy : 0 ≤ ry) (x y : Int) : rightP (shadowF b dx dy rx ry p F x y) := by
  unfold shadowF
  refine cutF_right (fun x y => ?_) _ x y
  have k := (boxF_ok h (thereR (someR b) dx dy) hx hy (x - dx) (y - dy)).2.2.2
  exact compP_right 0 (F x y) _ (h x y) (scaleP_ok hp k) (hr x y) (scaleP_right p _ k.1 rp)
end Go.Proofs.YtklcmlbkhjcaiaaGreatDoor
