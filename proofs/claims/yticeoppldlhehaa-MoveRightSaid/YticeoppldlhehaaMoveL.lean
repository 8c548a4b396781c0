/- What is moved, repeated, cut: plain facts. No program in sight. -/
import Derived.Test.YticeoppldlhehaaBufL
namespace Go.Proofs.Yticeoppldlhehaa
set_option linter.unusedVariables false

/-- Repeated: the tile's point that a point shows. -/
def tileF (b t : R) (F : Img) : Img := cutF (someR b) (fun x y => F (t.x0 + (x - t.x0) % (t.x1 - t.x0)) (t.y0 + (y - t.y0) % (t.y1 - t.y0)))
/-- Moved. -/
def moveF (b : R) (dx dy : Int) (F : Img) : Img := copyF (someR b) (someR b) dx dy noF F
theorem moveF_doc (b : R) (dx dy : Int) (F : Img) : copyF (someR b) b dx dy noF F = moveF b dx dy F := by
  funext u v
  unfold moveF copyF
  rw [hasR_some]
theorem wrap_mod {n s : Int} (hs : 0 < s) : (n.tmod s + s).tmod s = n % s := by
  by_cases h : 0 ≤ n
  · rw [Int.tmod_eq_emod_of_nonneg h, Int.tmod_eq_emod_of_nonneg (by have := Int.emod_nonneg n (b := s) (by omega); omega), Int.add_emod_right, Int.emod_emod]
  · have h1 : n.tmod s = -((-n) % s) := by
      have := Int.neg_tmod (-n) s
      rw [Int.neg_neg] at this
      rw [this, Int.tmod_eq_emod_of_nonneg (by omega)]
    have h2 := Int.emod_nonneg (-n) (b := s) (by omega)
    have h3 := Int.emod_lt_of_pos (-n) hs
    rw [h1, Int.tmod_eq_emod_of_nonneg (by omega)]
    have e := Int.mul_ediv_add_emod (-n) s
    have e2 : n = -((-n) % s) + s * (-((-n) / s)) := by rw [Int.mul_neg]; omega
    have e3 : n % s = (-((-n) % s)) % s := by
      conv => lhs; rw [e2]
      rw [Int.add_mul_emod_self_left]
    rw [e3, Int.add_emod_right]
theorem back_mod {n s : Int} (hs : 0 < s) : (if n - n.tdiv s * s < 0 then n - n.tdiv s * s + s else n - n.tdiv s * s) = n % s := by
  have e0 : n - n.tdiv s * s = n.tmod s := by
    have := Int.mul_tdiv_add_tmod n s
    rw [Int.mul_comm] at this
    omega
  rw [e0, ← wrap_mod hs]
  have b := Int.tmod_lt_of_pos n hs
  have b2 : -s < n.tmod s := by
    have := Int.tmod_lt_of_pos (-n) hs
    rw [Int.neg_tmod] at this
    omega
  have e1 : (n.tmod s + s).tmod s = (n.tmod s + s) % s := Int.tmod_eq_emod_of_nonneg (by omega)
  rw [e1]
  split
  · rw [Int.emod_eq_of_lt (by omega) (by omega)]
  · rw [Int.add_emod_right, Int.emod_eq_of_lt (by omega) (by omega)]
end Go.Proofs.Yticeoppldlhehaa
