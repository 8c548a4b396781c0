/- Rectangles in plain Lean: what the program's functions of layer 3 compute, and what follows. No program in sight. -/
import Derived.Below
namespace Go.Proofs.Yticeoppldlhehaa
set_option linter.unusedVariables false

structure R where
  x0 : Int
  y0 : Int
  x1 : Int
  y1 : Int

def mxI (a b : Int) : Int := if a < b then b else a
def mnI (a b : Int) : Int := if b < a then b else a
theorem mxI_eq (a b : Int) : mxI a b = max a b := by unfold mxI; omega
theorem mnI_eq (a b : Int) : mnI a b = min a b := by unfold mnI; omega

def zeroR : R := ⟨0, 0, 0, 0⟩
def emptyR (r : R) : Bool := decide (r.x1 ≤ r.x0) || decide (r.y1 ≤ r.y0)
def hasR (r : R) (x y : Int) : Bool := decide (r.x0 ≤ x) && (decide (x < r.x1) && (decide (r.y0 ≤ y) && decide (y < r.y1)))
def someR (r : R) : R := if emptyR r = true then zeroR else r
def meetR (a b : R) : R := someR ⟨mxI a.x0 b.x0, mxI a.y0 b.y0, mnI a.x1 b.x1, mnI a.y1 b.y1⟩
def joinR (a b : R) : R :=
  if emptyR a = true then (if emptyR b = true then zeroR else b) else if emptyR b = true then a else ⟨mnI a.x0 b.x0, mnI a.y0 b.y0, mxI a.x1 b.x1, mxI a.y1 b.y1⟩
def withinR (a b : R) : Bool := emptyR a || (decide (b.x0 ≤ a.x0) && (decide (b.y0 ≤ a.y0) && (decide (a.x1 ≤ b.x1) && decide (a.y1 ≤ b.y1))))
def cutN (n : Int) : Int := mxI (-4398046511104) (mnI n 4398046511104)
def movedN (e d : Int) : Int := if e = 4398046511104 ∨ e = -4398046511104 then e else e + d
def wholeR (r : R) : R := someR ⟨cutN r.x0, cutN r.y0, cutN r.x1, cutN r.y1⟩
def moveR (r : R) (dx dy : Int) : R := if emptyR r = true then zeroR else wholeR ⟨movedN r.x0 dx, movedN r.y0 dy, movedN r.x1 dx, movedN r.y1 dy⟩
def growR (r : R) (l u ri d : Int) : R := if emptyR r = true then zeroR else wholeR ⟨r.x0 - l, r.y0 - u, r.x1 + ri, r.y1 + d⟩
def areaR (r : R) : Int := if emptyR r = true then 0 else if 2305843009213693952 / (r.y1 - r.y0) < r.x1 - r.x0 then 2305843009213693952 else (r.x1 - r.x0) * (r.y1 - r.y0)
def nearN (n : Int) : Bool := decide (-4398046511104 ≤ n) && decide (n ≤ 4398046511104)
def rightR (r : R) : Bool := nearN r.x0 && (nearN r.y0 && (nearN r.x1 && nearN r.y1))

theorem emptyR_iff (r : R) : emptyR r = true ↔ r.x1 ≤ r.x0 ∨ r.y1 ≤ r.y0 := by simp [emptyR]
theorem emptyR_not (r : R) : emptyR r = false ↔ r.x0 < r.x1 ∧ r.y0 < r.y1 := by simp [emptyR]
theorem nearN_iff (n : Int) : nearN n = true ↔ -4398046511104 ≤ n ∧ n ≤ 4398046511104 := by simp [nearN]
theorem rightR_iff (r : R) : rightR r = true ↔ (-4398046511104 ≤ r.x0 ∧ r.x0 ≤ 4398046511104) ∧ (-4398046511104 ≤ r.y0 ∧ r.y0 ≤ 4398046511104) ∧ (-4398046511104 ≤ r.x1 ∧ r.x1 ≤ 4398046511104) ∧ (-4398046511104 ≤ r.y1 ∧ r.y1 ≤ 4398046511104) := by
  simp [rightR, nearN_iff]

/-- The area, where the rectangle is not empty: the product, but no more than the bound. -/
theorem area_min (w h : Int) (hw : 0 < w) (hh : 0 < h) : (if 2305843009213693952 / h < w then 2305843009213693952 else w * h) = min (w * h) 2305843009213693952 := by
  by_cases c : 2305843009213693952 / h < w
  · rw [if_pos c]
    have e1 := Int.mul_ediv_add_emod 2305843009213693952 h
    have e2 := Int.emod_lt_of_pos 2305843009213693952 hh
    have e3 : h * (2305843009213693952 / h + 1) ≤ h * w := Int.mul_le_mul_of_nonneg_left (by omega) (by omega)
    rw [Int.mul_add] at e3
    have e4 : h * w = w * h := Int.mul_comm h w
    generalize w * h = p at *
    generalize h * (2305843009213693952 / h) = q at *
    omega
  · rw [if_neg c]
    have e1 : h * (2305843009213693952 / h) ≤ 2305843009213693952 := Int.mul_ediv_self_le (by omega)
    have e3 : h * w ≤ h * (2305843009213693952 / h) := Int.mul_le_mul_of_nonneg_left (by omega) (by omega)
    have e4 : h * w = w * h := Int.mul_comm h w
    generalize w * h = p at *
    generalize h * (2305843009213693952 / h) = q at *
    omega
theorem areaR_eq (r : R) (h : emptyR r = false) : areaR r = min ((r.x1 - r.x0) * (r.y1 - r.y0)) 2305843009213693952 := by
  unfold areaR
  rw [if_neg (by simp [h])]
  have := (emptyR_not r).1 h
  exact area_min _ _ (by omega) (by omega)
theorem areaR_empty (r : R) (h : emptyR r = true) : areaR r = 0 := by unfold areaR; rw [if_pos h]
theorem areaR_bd (r : R) : 0 ≤ areaR r ∧ areaR r ≤ 2305843009213693952 := by
  cases h : emptyR r
  · rw [areaR_eq r h]
    have h1 := (emptyR_not r).1 h
    have : 0 ≤ (r.x1 - r.x0) * (r.y1 - r.y0) := Int.mul_nonneg (by omega) (by omega)
    omega
  · rw [areaR_empty r h]; omega
theorem areaR_pos (r : R) (h : emptyR r = false) : 0 < areaR r := by
  rw [areaR_eq r h]
  have h1 := (emptyR_not r).1 h
  have : 0 < (r.x1 - r.x0) * (r.y1 - r.y0) := Int.mul_pos (by omega) (by omega)
  omega
theorem areaR_zero (r : R) : (areaR r == 0) = emptyR r := by
  cases h : emptyR r
  · have := areaR_pos r h
    simp; omega
  · simp [areaR_empty r h]
theorem emptyR_zero : emptyR zeroR = true := by decide
theorem emptyR_some (r : R) : emptyR (someR r) = emptyR r := by
  unfold someR
  split
  · rename_i h; rw [emptyR_zero, h]
  · rfl
theorem areaR_some (r : R) : areaR (someR r) = areaR r := by
  unfold someR
  split
  · rename_i h; rw [areaR_empty r h, areaR_empty _ emptyR_zero]
  · rfl

theorem area_mono (a b : R) (ha : emptyR a = false) (h0 : b.x0 ≤ a.x0) (h1 : b.y0 ≤ a.y0) (h2 : a.x1 ≤ b.x1) (h3 : a.y1 ≤ b.y1) : areaR a ≤ areaR b := by
  have k := (emptyR_not a).1 ha
  have hb : emptyR b = false := (emptyR_not b).2 (by omega)
  rw [areaR_eq a ha, areaR_eq b hb]
  have e1 : (a.x1 - a.x0) * (a.y1 - a.y0) ≤ (b.x1 - b.x0) * (a.y1 - a.y0) := Int.mul_le_mul_of_nonneg_right (by omega) (by omega)
  have e2 : (b.x1 - b.x0) * (a.y1 - a.y0) ≤ (b.x1 - b.x0) * (b.y1 - b.y0) := Int.mul_le_mul_of_nonneg_left (by omega) (by omega)
  omega

theorem area_meet_le (a b : R) : areaR (meetR a b) ≤ areaR a ∧ areaR (meetR a b) ≤ areaR b := by
  unfold meetR
  rw [areaR_some]
  simp only [mxI_eq, mnI_eq]
  cases h : emptyR (⟨max a.x0 b.x0, max a.y0 b.y0, min a.x1 b.x1, min a.y1 b.y1⟩ : R)
  · have k := (emptyR_not _).1 h
    simp only at k
    exact ⟨area_mono _ _ h (by simp only; omega) (by simp only; omega) (by simp only; omega) (by simp only; omega), area_mono _ _ h (by simp only; omega) (by simp only; omega) (by simp only; omega) (by simp only; omega)⟩
  · rw [areaR_empty _ h]
    exact ⟨(areaR_bd a).1, (areaR_bd b).1⟩

theorem joined (p q r s mw mh : Int) (hp : 0 ≤ p) (hq : 0 ≤ q) (hr : 0 ≤ r) (hs : 0 ≤ s) : (mw + p) * (mh + r) + (mw + q) * (mh + s) - mw * mh ≤ (mw + p + q) * (mh + r + s) := by
  have e1 : 0 ≤ p * s := Int.mul_nonneg hp hs
  have e2 : 0 ≤ q * r := Int.mul_nonneg hq hr
  simp only [Int.add_mul, Int.mul_add]
  omega
theorem apart_le (wa ha wb hb w h : Int) (h1 : 0 ≤ wa) (h2 : 0 ≤ wb) (h3 : wa + wb ≤ w) (k1 : ha ≤ h) (k2 : hb ≤ h) (k3 : 0 ≤ h) : wa * ha + wb * hb ≤ w * h := by
  have e1 : wa * ha ≤ wa * h := Int.mul_le_mul_of_nonneg_left k1 h1
  have e2 : wb * hb ≤ wb * h := Int.mul_le_mul_of_nonneg_left k2 h2
  have e3 : (wa + wb) * h ≤ w * h := Int.mul_le_mul_of_nonneg_right h3 k3
  rw [Int.add_mul] at e3
  omega

theorem area_join (a b : R) (hj : areaR (joinR a b) < 2305843009213693952) : areaR a + areaR b - areaR (meetR a b) ≤ areaR (joinR a b) := by
  have hm := areaR_bd (meetR a b)
  cases ha : emptyR a
  · cases hb : emptyR b
    · have ka := (emptyR_not a).1 ha
      have kb := (emptyR_not b).1 hb
      unfold joinR at hj ⊢
      rw [ha, hb] at hj ⊢
      simp only [Bool.false_eq_true, if_false] at hj ⊢
      unfold meetR
      rw [areaR_some]
      simp only [mxI_eq, mnI_eq] at hj ⊢
      have hjn : emptyR (⟨min a.x0 b.x0, min a.y0 b.y0, max a.x1 b.x1, max a.y1 b.y1⟩ : R) = false := (emptyR_not _).2 (by simp only; omega)
      rw [areaR_eq _ hjn] at hj ⊢
      simp only at hj ⊢
      rw [areaR_eq a ha, areaR_eq b hb]
      cases h : emptyR (⟨max a.x0 b.x0, max a.y0 b.y0, min a.x1 b.x1, min a.y1 b.y1⟩ : R)
      · have k := (emptyR_not _).1 h
        simp only at k
        rw [areaR_eq _ h]
        simp only
        have hm1 : (min a.x1 b.x1 - max a.x0 b.x0) * (min a.y1 b.y1 - max a.y0 b.y0) ≤ (a.x1 - a.x0) * (a.y1 - a.y0) := by
          have e1 : (min a.x1 b.x1 - max a.x0 b.x0) * (min a.y1 b.y1 - max a.y0 b.y0) ≤ (a.x1 - a.x0) * (min a.y1 b.y1 - max a.y0 b.y0) := Int.mul_le_mul_of_nonneg_right (by omega) (by omega)
          have e2 : (a.x1 - a.x0) * (min a.y1 b.y1 - max a.y0 b.y0) ≤ (a.x1 - a.x0) * (a.y1 - a.y0) := Int.mul_le_mul_of_nonneg_left (by omega) (by omega)
          omega
        have e := joined ((a.x1 - a.x0) - (min a.x1 b.x1 - max a.x0 b.x0)) ((b.x1 - b.x0) - (min a.x1 b.x1 - max a.x0 b.x0)) ((a.y1 - a.y0) - (min a.y1 b.y1 - max a.y0 b.y0)) ((b.y1 - b.y0) - (min a.y1 b.y1 - max a.y0 b.y0)) (min a.x1 b.x1 - max a.x0 b.x0) (min a.y1 b.y1 - max a.y0 b.y0) (by omega) (by omega) (by omega) (by omega)
        rw [show min a.x1 b.x1 - max a.x0 b.x0 + ((a.x1 - a.x0) - (min a.x1 b.x1 - max a.x0 b.x0)) = a.x1 - a.x0 from by omega, show min a.y1 b.y1 - max a.y0 b.y0 + ((a.y1 - a.y0) - (min a.y1 b.y1 - max a.y0 b.y0)) = a.y1 - a.y0 from by omega,
          show min a.x1 b.x1 - max a.x0 b.x0 + ((b.x1 - b.x0) - (min a.x1 b.x1 - max a.x0 b.x0)) = b.x1 - b.x0 from by omega, show min a.y1 b.y1 - max a.y0 b.y0 + ((b.y1 - b.y0) - (min a.y1 b.y1 - max a.y0 b.y0)) = b.y1 - b.y0 from by omega,
          show a.x1 - a.x0 + ((b.x1 - b.x0) - (min a.x1 b.x1 - max a.x0 b.x0)) = max a.x1 b.x1 - min a.x0 b.x0 from by omega, show a.y1 - a.y0 + ((b.y1 - b.y0) - (min a.y1 b.y1 - max a.y0 b.y0)) = max a.y1 b.y1 - min a.y0 b.y0 from by omega] at e
        have q1 : 0 ≤ (b.x1 - b.x0) * (b.y1 - b.y0) := Int.mul_nonneg (by omega) (by omega)
        have q2 : 0 ≤ (a.x1 - a.x0) * (a.y1 - a.y0) := Int.mul_nonneg (by omega) (by omega)
        generalize (min a.x1 b.x1 - max a.x0 b.x0) * (min a.y1 b.y1 - max a.y0 b.y0) = t1 at *
        generalize (a.x1 - a.x0) * (a.y1 - a.y0) = t2 at *
        generalize (b.x1 - b.x0) * (b.y1 - b.y0) = t3 at *
        generalize (max a.x1 b.x1 - min a.x0 b.x0) * (max a.y1 b.y1 - min a.y0 b.y0) = t4 at *
        omega
      · have k := (emptyR_iff _).1 h
        simp only at k
        rw [areaR_empty _ h]
        have e : (a.x1 - a.x0) * (a.y1 - a.y0) + (b.x1 - b.x0) * (b.y1 - b.y0) ≤ (max a.x1 b.x1 - min a.x0 b.x0) * (max a.y1 b.y1 - min a.y0 b.y0) := by
          rcases k with k | k
          · exact apart_le _ _ _ _ _ _ (by omega) (by omega) (by omega) (by omega) (by omega) (by omega)
          · rw [Int.mul_comm (a.x1 - a.x0), Int.mul_comm (b.x1 - b.x0), Int.mul_comm (max a.x1 b.x1 - min a.x0 b.x0)]
            exact apart_le _ _ _ _ _ _ (by omega) (by omega) (by omega) (by omega) (by omega) (by omega)
        have q1 : 0 ≤ (b.x1 - b.x0) * (b.y1 - b.y0) := Int.mul_nonneg (by omega) (by omega)
        have q2 : 0 ≤ (a.x1 - a.x0) * (a.y1 - a.y0) := Int.mul_nonneg (by omega) (by omega)
        generalize (a.x1 - a.x0) * (a.y1 - a.y0) = t2 at *
        generalize (b.x1 - b.x0) * (b.y1 - b.y0) = t3 at *
        generalize (max a.x1 b.x1 - min a.x0 b.x0) * (max a.y1 b.y1 - min a.y0 b.y0) = t4 at *
        omega
    · unfold joinR at hj ⊢
      rw [ha, hb] at hj ⊢
      simp only [Bool.false_eq_true, if_false, if_true] at hj ⊢
      rw [areaR_empty b hb]
      omega
  · unfold joinR at hj ⊢
    rw [ha] at hj ⊢
    simp only [if_true] at hj ⊢
    rw [areaR_empty a ha]
    cases hb : emptyR b
    · rw [hb] at hj
      simp only [Bool.false_eq_true, if_false] at hj ⊢
      omega
    · simp only [if_true]
      rw [areaR_empty b hb, areaR_empty _ emptyR_zero]
      omega

theorem someR_fits (r : R) (h : (-4398046511104 ≤ r.x0 ∧ r.x0 ≤ 4398046511104) ∧ (-4398046511104 ≤ r.y0 ∧ r.y0 ≤ 4398046511104) ∧ (-4398046511104 ≤ r.x1 ∧ r.x1 ≤ 4398046511104) ∧ (-4398046511104 ≤ r.y1 ∧ r.y1 ≤ 4398046511104)) :
    (-4398046511104 ≤ (someR r).x0 ∧ (someR r).x0 ≤ 4398046511104) ∧ (-4398046511104 ≤ (someR r).y0 ∧ (someR r).y0 ≤ 4398046511104) ∧ (-4398046511104 ≤ (someR r).x1 ∧ (someR r).x1 ≤ 4398046511104) ∧ (-4398046511104 ≤ (someR r).y1 ∧ (someR r).y1 ≤ 4398046511104) := by
  unfold someR
  split
  · simp [zeroR]
  · exact h
theorem meetR_fits (a b : R) (ha : rightR a = true) (hb : rightR b = true) :
    (-4398046511104 ≤ (meetR a b).x0 ∧ (meetR a b).x0 ≤ 4398046511104) ∧ (-4398046511104 ≤ (meetR a b).y0 ∧ (meetR a b).y0 ≤ 4398046511104) ∧ (-4398046511104 ≤ (meetR a b).x1 ∧ (meetR a b).x1 ≤ 4398046511104) ∧ (-4398046511104 ≤ (meetR a b).y1 ∧ (meetR a b).y1 ≤ 4398046511104) := by
  have ra := (rightR_iff _).1 ha
  have rb := (rightR_iff _).1 hb
  unfold meetR
  refine someR_fits _ ?_
  simp only [mxI_eq, mnI_eq]
  omega
theorem joinR_fits (a b : R) (ha : rightR a = true) (hb : rightR b = true) :
    (-4398046511104 ≤ (joinR a b).x0 ∧ (joinR a b).x0 ≤ 4398046511104) ∧ (-4398046511104 ≤ (joinR a b).y0 ∧ (joinR a b).y0 ≤ 4398046511104) ∧ (-4398046511104 ≤ (joinR a b).x1 ∧ (joinR a b).x1 ≤ 4398046511104) ∧ (-4398046511104 ≤ (joinR a b).y1 ∧ (joinR a b).y1 ≤ 4398046511104) := by
  have ra := (rightR_iff _).1 ha
  have rb := (rightR_iff _).1 hb
  unfold joinR
  split
  · split
    · simp [zeroR]
    · exact rb
  · split
    · exact ra
    · simp only [mxI_eq, mnI_eq]
      omega

theorem cutN_in (n : Int) (h : -4398046511104 ≤ n ∧ n ≤ 4398046511104) : cutN n = n := by unfold cutN; rw [mxI_eq, mnI_eq]; omega
theorem hasR_iff (r : R) (x y : Int) : hasR r x y = true ↔ r.x0 ≤ x ∧ x < r.x1 ∧ r.y0 ≤ y ∧ y < r.y1 := by simp [hasR]
theorem hasR_some (r : R) (x y : Int) : hasR (someR r) x y = hasR r x y := by
  unfold someR
  split
  · rename_i h
    have := (emptyR_iff r).1 h
    rw [Bool.eq_iff_iff, hasR_iff, hasR_iff]
    simp only [zeroR]
    omega
  · rfl
/-- Moved, far from the plane's ends. -/
theorem has_move (a0 a1 a2 a3 x y dx dy : Int) (h0 : -1048576 < a0 ∧ a0 ≤ 1048576) (h1 : -1048576 < a1 ∧ a1 ≤ 1048576) (h2 : -1048576 ≤ a2 ∧ a2 < 1048576) (h3 : -1048576 ≤ a3 ∧ a3 < 1048576) (hx : -1048576 < dx ∧ dx < 1048576) (hy : -1048576 < dy ∧ dy < 1048576) :
    hasR (moveR ⟨a0, a1, a2, a3⟩ dx dy) x y = hasR ⟨a0, a1, a2, a3⟩ (x - dx) (y - dy) := by
  unfold moveR
  split
  · rename_i h
    have := (emptyR_iff _).1 h
    simp only at this
    rw [Bool.eq_iff_iff, hasR_iff, hasR_iff]
    simp only [zeroR]
    omega
  · unfold wholeR movedN
    rw [hasR_some]
    simp only
    rw [if_neg (by omega), if_neg (by omega), if_neg (by omega), if_neg (by omega), cutN_in _ (by omega), cutN_in _ (by omega), cutN_in _ (by omega), cutN_in _ (by omega), Bool.eq_iff_iff, hasR_iff, hasR_iff]
    simp only
    omega
/-- Grown, far from the plane's ends. -/
theorem has_grow (a0 a1 a2 a3 x y d : Int) (h0 : -1048576 < a0 ∧ a0 ≤ 1048576) (h1 : -1048576 < a1 ∧ a1 ≤ 1048576) (h2 : -1048576 ≤ a2 ∧ a2 < 1048576) (h3 : -1048576 ≤ a3 ∧ a3 < 1048576) (hd : 0 ≤ d ∧ d ≤ 1000) :
    hasR (growR ⟨a0, a1, a2, a3⟩ d d d d) x y = (!emptyR ⟨a0, a1, a2, a3⟩ && (decide (a0 - d ≤ x) && (decide (x < a2 + d) && (decide (a1 - d ≤ y) && decide (y < a3 + d))))) := by
  unfold growR
  cases h : emptyR (⟨a0, a1, a2, a3⟩ : R)
  · simp only [Bool.false_eq_true, if_false]
    unfold wholeR
    rw [hasR_some]
    simp only
    rw [cutN_in _ (by omega), cutN_in _ (by omega), cutN_in _ (by omega), cutN_in _ (by omega)]
    simp [hasR]
  · simp only [if_true, Bool.not_true, Bool.false_and]
    rw [Bool.eq_false_iff, ne_eq, hasR_iff]
    simp only [zeroR]
    omega
end Go.Proofs.Yticeoppldlhehaa
