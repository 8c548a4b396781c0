/- Rectangles in plain Lean: what the program's functions of layer 3 compute, and what follows. No program in sight. -/
import Derived.Below


namespace Go.Proofs.YtklcmlbkhjcaiaaDoor
set_option linter.unusedVariables false

structure R where
  x0 : Int
  y0 : Int
  x1 : Int
  y1 : Int

def mxI (a b : Int) : Int := if a < b then b else a
def mnI (a b : Int) : Int := if b < a then b else a
theorem mxI_eq (a b : Int) : mxI a b = max a b := by unfold mxI; omega
theorem mnI_eq (a b : Int) : mnI a b = min a b := by unfold mnI; omega

def zeroR : R := ⟨0, 0, 0, 0⟩
def emptyR (r : R) : Bool := decide (r.x1 ≤ r.x0) || decide (r.y1 ≤ r.y0)
def hasR (r : R) (x y : Int) : Bool := decide (r.x0 ≤ x) && (decide (x < r.x1) && (decide (r.y0 ≤ y) && decide (y < r.y1)))
def someR (r : R) : R := if emptyR r = true then zeroR else r
def meetR (a b : R) : R := someR ⟨mxI a.x0 b.x0, mxI a.y0 b.y0, mnI a.x1 b.x1, mnI a.y1 b.y1⟩
def joinR (a b : R) : R :=
  if emptyR a = true then (if emptyR b = true then zeroR else b) else if emptyR b = true then a else ⟨mnI a.x0 b.x0, mnI a.y0 b.y0, mxI a.x1 b.x1, mxI a.y1 b.y1⟩
def withinR (a b : R) : Bool := emptyR a || (decide (b.x0 ≤ a.x0) && (decide (b.y0 ≤ a.y0) && (decide (a.x1 ≤ b.x1) && decide (a.y1 ≤ b.y1))))
def cutN (n : Int) : Int := mxI (-4398046511104) (mnI n 4398046511104)
def movedN (e d : Int) : Int := if e = 4398046511104 ∨ e = -4398046511104 then e else e + d
def wholeR (r : R) : R := someR ⟨cutN r.x0, cutN r.y0, cutN r.x1, cutN r.y1⟩
def moveR (r : R) (dx dy : Int) : R := if emptyR r = true then zeroR else wholeR ⟨movedN r.x0 dx, movedN r.y0 dy, movedN r.x1 dx, movedN r.y1 dy⟩
def growR (r : R) (l u ri d : Int) : R := if emptyR r = true then zeroR else wholeR ⟨r.x0 - l, r.y0 - u, r.x1 + ri, r.y1 + d⟩
def areaR (r : R) : Int := if emptyR r = true then 0 else if 2305843009213693952 / (r.y1 - r.y0) < r.x1 - r.x0 then 2305843009213693952 else (r.x1 - r.x0) * (r.y1 - r.y0)
def nearN (n : Int) : Bool := decide (-4398046511104 ≤ n) && decide (n ≤ 4398046511104)
def rightR (r : R) : Bool := nearN r.x0 && (nearN r.y0 && (nearN r.x1 && nearN r.y1))

theorem emptyR_iff (r : R) : emptyR r = true ↔ r.x1 ≤ r.x0 ∨ r.y1 ≤ r.y0 := by simp [emptyR]
theorem emptyR_not (r : R) : emptyR r = false ↔ r.x0 < r.x1 ∧ r.y0 < r.y1 := by simp [emptyR]
theorem nearN_iff (n : Int) : nearN n = true ↔ -4398046511104 ≤ n ∧ n ≤ 4398046511104 := by simp [nearN]
theorem rightR_iff (r : R) : rightR r = true ↔ (-4398046511104 ≤ r.x0 ∧ r.x0 ≤ 4398046511104) ∧ (-4398046511104 ≤ r.y0 ∧ r.y0 ≤ 4398046511104) ∧ (-4398046511104 ≤ r.x1 ∧ r.x1 ≤ 4398046511104) ∧ (-4398046511104 ≤ r.y1 ∧ r.y1 ≤ 4398046511104) := by
  simp [rightR, nearN_iff]

/-- The area, where the rectangle is not empty: the product, but no more than the bound. -/
theorem area_min (w h : Int) (hw : 0 < w) (hh : 0 < h) : (if 2305843009213693952 / h < w then 2305843009213693952 else w * h) = min (w * h) 2305843009213693952 := by
  by_cases c : 2305843009213693952 / h < w
  · rw [if_pos c]
    have e1 := Int.mul_ediv_add_emod 2305843009213693952 h
    have e2 := Int.emod_lt_of_pos 2305843009213693952 hh
    have e3 : h * (2305843009213693952 / h + 1) ≤ h * w := Int.mul_le_mul_of_nonneg_left (by omega) (by omega)
    rw [Int.mul_add] at e3
    have e4 : h * w = w * h := Int.mul_comm h w
    generalize w * h = p at *
    generalize h * (2305843009213693952 / h) = q at *
    omega
  · rw [if_neg c]
    have e1 : h * (2305843009213693952 / h) ≤ 2305843009213693952 := Int.mul_ediv_self_le (by omega)
    have e3 : h * w ≤ h * (2305843009213693952 / h) := Int.mul_le_mul_of_nonneg_left (by omega) (by omega)
    have e4 : h * w = w * h := Int.mul_comm h w
    generalize w * h = p at *
    generalize h * (2305843009213693952 / h) = q at *
    omega
theorem areaR_eq (r : R) (h : emptyR r = false) : areaR r = min ((r.x1 - r.x0) * (r.y1 - r.y0)) 2305843009213693952 := by
  unfold areaR
  rw [if_neg (by simp [h])]
  have := (emptyR_not r).1 h
  exact area_min _ _ (by omega) (by omega)
theorem areaR_empty (r : R) (h : emptyR r = true) : areaR r = 0 := by unfold areaR; rw [if_pos h]
theorem areaR_bd (r : R) : 0 ≤ areaR r ∧ areaR r ≤ 2305843009213693952 := by
  cases h : emptyR r
  · rw [areaR_eq r h]
    have h1 := (emptyR_not r).1 h
    have : 0 ≤ (r.x1 - r.x0) * (r.y1 - r.y0) := Int.mul_nonneg (by omega) (by omega)
    omega
  · rw [areaR_empty r h]; omega
theorem areaR_pos (r : R) (h : emptyR r = false) : 0 < areaR r := by
  rw [areaR_eq r h]
  have h1 := (emptyR_not r).1 h
  have : 0 < (r.x1 - r.x0) * (r.y1 - r.y0) := Int.mul_pos (by omega) (by omega)
  omega
theorem areaR_zero (r : R) : (areaR r == 0) = emptyR r := by
  cases h : emptyR r
  · have := areaR_pos r h
    simp; omega
  · simp [areaR_empty r h]
theorem emptyR_zero : emptyR zeroR = true := by decide
theorem emptyR_some (r : R) : emptyR (someR r) = emptyR r := by
  unfold someR
  split
  · rename_i h; rw [emptyR_zero, h]
  · rfl
theorem areaR_some (r : R) : areaR (someR r) = areaR r := by
  unfold someR
  split
  · rename_i h; rw [areaR_empty r h, areaR_empty _ emptyR_zero]
  · rfl

theorem area_mono (a b : R) (ha : emptyR a = false) (h0 : b.x0 ≤ a.x0) (h1 : b.y0 ≤ a.y0) (h2 : a.x1 ≤ b.x1) (h3 : a.y1 ≤ b.y1) : areaR a ≤ areaR b := by
  have k := (emptyR_not a).1 ha
  have hb : emptyR b = false := (emptyR_not b).2 (by omega)
  rw [areaR_eq a ha, areaR_eq b hb]
  have e1 : (a.x1 - a.x0) * (a.y1 - a.y0) ≤ (b.x1 - b.x0) * (a.y1 - a.y0) := Int.mul_le_mul_of_nonneg_right (by omega) (by omega)
  have e2 : (b.x1 - b.x0) * (a.y1 - a.y0) ≤ (b.x1 - b.x0) * (b.y1 - b.y0) := Int.mul_le_mul_of_nonneg_left (by omega) (by omega)
  omega

theorem area_meet_le (a b : R) : areaR (meetR a b) ≤ areaR a ∧ areaR (meetR a b) ≤ areaR b := by
  unfold meetR
  rw [areaR_some]
  simp only [mxI_eq, mnI_eq]
  cases h : emptyR (⟨max a.x0 b.x0, max a.y0 b.y0, min a.x1 b.x1, min a.y1 b.y1⟩ : R)
  · have k := (emptyR_not _).1 h
    simp only at k
    exact ⟨area_mono _ _ h (by simp only; omega) (by simp only; omega) (by simp only; omega) (by simp only; omega), area_mono _ _ h (by simp only; omega) (by simp only; omega) (by simp only; omega) (by simp only; omega)⟩
  · rw [areaR_empty _ h]
    exact ⟨(areaR_bd a).1, (areaR_bd b).1⟩

theorem joined (p q r s mw mh : Int) (hp : 0 ≤ p) (hq : 0 ≤ q) (hr : 0 ≤ r) (hs : 0 ≤ s) : (mw + p) * (mh + r) + (mw + q) * (mh + s) - mw * mh ≤ (mw + p + q) * (mh + r + s) := by
  have e1 : 0 ≤ p * s := Int.mul_nonneg hp hs
  have e2 : 0 ≤ q * r := Int.mul_nonneg hq hr
  simp only [Int.add_mul, Int.mul_add]
  omega
theorem apart_le (wa ha wb hb w h : Int) (h1 : 0 ≤ wa) (h2 : 0 ≤ wb) (h3 : wa + wb ≤ w) (k1 : ha ≤ h) (k2 : hb ≤ h) (k3 : 0 ≤ h) : wa * ha + wb * hb ≤ w * h := by
  have e1 : wa * ha ≤ wa * h := Int.mul_le_mul_of_nonneg_left k1 h1
  have e2 : wb * hb ≤ wb * h := Int.mul_le_mul_of_nonneg_left k2 h2
  have e3 : (wa + wb) * h ≤ w * h := Int.mul_le_mul_of_nonneg_right h3 k3
  rw [Int.add_mul] at e3
  omega

theorem area_join (a b : R) (hj : areaR (joinR a b) < 2305843009213693952) : areaR a + areaR b - areaR (meetR a b) ≤ areaR (joinR a b) := by
  have hm := areaR_bd (meetR a b)
  cases ha : emptyR a
  · cases hb : emptyR b
    · have ka := (emptyR_not a).1 ha
      have kb := (emptyR_not b).1 hb
      unfold joinR at hj ⊢
      rw [ha, hb] at hj ⊢
      simp only [Bool.false_eq_true, if_false] at hj ⊢
      unfold meetR
      rw [areaR_some]
      simp only [mxI_eq, mnI_eq] at hj ⊢
      have hjn : emptyR (⟨min a.x0 b.x0, min a.y0 b.y0, max a.x1 b.x1, max a.y1 b.y1⟩ : R) = false := (emptyR_not _).2 (by simp only; omega)
      rw [areaR_eq _ hjn] at hj ⊢
      simp only at hj ⊢
      rw [areaR_eq a ha, areaR_eq b hb]
      cases h : emptyR (⟨max a.x0 b.x0, max a.y0 b.y0, min a.x1 b.x1, min a.y1 b.y1⟩ : R)
      · have k := (emptyR_not _).1 h
        simp only at k
        rw [areaR_eq _ h]
        simp only
        have hm1 : (min a.x1 b.x1 - max a.x0 b.x0) * (min a.y1 b.y1 - max a.y0 b.y0) ≤ (a.x1 - a.x0) * (a.y1 - a.y0) := by
          have e1 : (min a.x1 b.x1 - max a.x0 b.x0) * (min a.y1 b.y1 - max a.y0 b.y0) ≤ (a.x1 - a.x0) * (min a.y1 b.y1 - max a.y0 b.y0) := Int.mul_le_mul_of_nonneg_right (by omega) (by omega)
          have e2 : (a.x1 - a.x0) * (min a.y1 b.y1 - max a.y0 b.y0) ≤ (a.x1 - a.x0) * (a.y1 - a.y0) := Int.mul_le_mul_of_nonneg_left (by omega) (by omega)
          omega
        have e := joined ((a.x1 - a.x0) - (min a.x1 b.x1 - max a.x0 b.x0)) ((b.x1 - b.x0) - (min a.x1 b.x1 - max a.x0 b.x0)) ((a.y1 - a.y0) - (min a.y1 b.y1 - max a.y0 b.y0)) ((b.y1 - b.y0) - (min a.y1 b.y1 - max a.y0 b.y0)) (min a.x1 b.x1 - max a.x0 b.x0) (min a.y1 b.y1 - max a.y0 b.y0) (by omega) (by omega) (by omega) (by omega)
        rw [show min a.x1 b.x1 - max a.x0 b.x0 + ((a.x1 - a.x0) - (min a.x1 b.x1 - max a.x0 b.x0)) = a.x1 - a.x0 from by omega, show min a.y1 b.y1 - max a.y0 b.y0 + ((a.y1 - a.y0) - (min a.y1 b.y1 - max a.y0 b.y0)) = a.y1 - a.y0 from by omega,
          show min a.x1 b.x1 - max a.x0 b.x0 + ((b.x1 - b.x0) - (min a.x1 b.x1 - max a.x0 b.x0)) = b.x1 - b.x0 from by omega, show min a.y1 b.y1 - max a.y0 b.y0 + ((b.y1 - b.y0) - (min a.y1 b.y1 - max a.y0 b.y0)) = b.y1 - b.y0 from by omega,
          show a.x1 - a.x0 + ((b.x1 - b.x0) - (min a.x1 b.x1 - max a.x0 b.x0)) = max a.x1 b.x1 - min a.x0 b.x0 from by omega, show a.y1 - a.y0 + ((b.y1 - b.y0) - (min a.y1 b.y1 - max a.y0 b.y0)) = max a.y1 b.y1 - min a.y0 b.y0 from by omega] at e
        have q1 : 0 ≤ (b.x1 - b.x0) * (b.y1 - b.y0) := Int.mul_nonneg (by omega) (by omega)
        have q2 : 0 ≤ (a.x1 - a.x0) * (a.y1 - a.y0) := Int.mul_nonneg (by omega) (by omega)
        generalize (min a.x1 b.x1 - max a.x0 b.x0) * (min a.y1 b.y1 - max a.y0 b.y0) = t1 at *
        generalize (a.x1 - a.x0) * (a.y1 - a.y0) = t2 at *
        generalize (b.x1 - b.x0) * (b.y1 - b.y0) = t3 at *
        generalize (max a.x1 b.x1 - min a.x0 b.x0) * (max a.y1 b.y1 - min a.y0 b.y0) = t4 at *
        omega
      · have k := (emptyR_iff _).1 h
        simp only at k
        rw [areaR_empty _ h]
        have e : (a.x1 - a.x0) * (a.y1 - a.y0) + (b.x1 - b.x0) * (b.y1 - b.y0) ≤ (max a.x1 b.x1 - min a.x0 b.x0) * (max a.y1 b.y1 - min a.y0 b.y0) := by
          rcases k with k | k
          · exact apart_le _ _ _ _ _ _ (by omega) (by omega) (by omega) (by omega) (by omega) (by omega)
          · rw [Int.mul_comm (a.x1 - a.x0), Int.mul_comm (b.x1 - b.x0), Int.mul_comm (max a.x1 b.x1 - min a.x0 b.x0)]
            exact apart_le _ _ _ _ _ _ (by omega) (by omega) (by omega) (by omega) (by omega) (by omega)
        have q1 : 0 ≤ (b.x1 - b.x0) * (b.y1 - b.y0) := Int.mul_nonneg (by omega) (by omega)
        have q2 : 0 ≤ (a.x1 - a.x0) * (a.y1 - a.y0) := Int.mul_nonneg (by omega) (by omega)
        generalize (a.x1 - a.x0) * (a.y1 - a.y0) = t2 at *
        generalize (b.x1 - b.x0) * (b.y1 - b.y0) = t3 at *
        generalize (max a.x1 b.x1 - min a.x0 b.x0) * (max a.y1 b.y1 - min a.y0 b.y0) = t4 at *
        omega
    · unfold joinR at hj ⊢
      rw [ha, hb] at hj ⊢
      simp only [Bool.false_eq_true, if_false, if_true] at hj ⊢
      rw [areaR_empty b hb]
      omega
  · unfold joinR at hj ⊢
    rw [ha] at hj ⊢
    simp only [if_true] at hj ⊢
    rw [areaR_empty a ha]
    cases hb : emptyR b
    · rw [hb] at hj
      simp only [Bool.false_eq_true, if_false] at hj ⊢
      omega
    · simp only [if_true]
      rw [areaR_empty b hb, areaR_empty _ emptyR_zero]
      omega

theorem someR_fits (r : R) (h : (-4398046511104 ≤ r.x0 ∧ r.x0 ≤ 4398046511104) ∧ (-4398046511104 ≤ r.y0 ∧ r.y0 ≤ 4398046511104) ∧ (-4398046511104 ≤ r.x1 ∧ r.x1 ≤ 4398046511104) ∧ (-4398046511104 ≤ r.y1 ∧ r.y1 ≤ 4398046511104)) :
    (-4398046511104 ≤ (someR r).x0 ∧ (someR r).x0 ≤ 4398046511104) ∧ (-4398046511104 ≤ (someR r).y0 ∧ (someR r).y0 ≤ 4398046511104) ∧ (-4398046511104 ≤ (someR r).x1 ∧ (someR r).x1 ≤ 4398046511104) ∧ (-4398046511104 ≤ (someR r).y1 ∧ (someR r).y1 ≤ 4398046511104) := by
  unfold someR
  split
  · simp [zeroR]
  · exact h
theorem meetR_fits (a b : R) (ha : rightR a = true) (hb : rightR b = true) :
    (-4398046511104 ≤ (meetR a b).x0 ∧ (meetR a b).x0 ≤ 4398046511104) ∧ (-4398046511104 ≤ (meetR a b).y0 ∧ (meetR a b).y0 ≤ 4398046511104) ∧ (-4398046511104 ≤ (meetR a b).x1 ∧ (meetR a b).x1 ≤ 4398046511104) ∧ (-4398046511104 ≤ (meetR a b).y1 ∧ (meetR a b).y1 ≤ 4398046511104) := by
  have ra := (rightR_iff _).1 ha
  have rb := (rightR_iff _).1 hb
  unfold meetR
  refine someR_fits _ ?_
  simp only [mxI_eq, mnI_eq]
  omega
theorem joinR_fits (a b : R) (ha : rightR a = true) (hb : rightR b = true) :
    (-4398046511104 ≤ (joinR a b).x0 ∧ (joinR a b).x0 ≤ 4398046511104) ∧ (-4398046511104 ≤ (joinR a b).y0 ∧ (joinR a b).y0 ≤ 4398046511104) ∧ (-4398046511104 ≤ (joinR a b).x1 ∧ (joinR a b).x1 ≤ 4398046511104) ∧ (-4398046511104 ≤ (joinR a b).y1 ∧ (joinR a b).y1 ≤ 4398046511104) := by
  have ra := (rightR_iff _).1 ha
  have rb := (rightR_iff _).1 hb
  unfold joinR
  split
  · split
    · simp [zeroR]
    · exact rb
  · split
    · exact ra
    · simp only [mxI_eq, mnI_eq]
      omega

theorem cutN_in (n : Int) (h : -4398046511104 ≤ n ∧ n ≤ 4398046511104) : cutN n = n := by unfold cutN; rw [mxI_eq, mnI_eq]; omega
theorem hasR_iff (r : R) (x y : Int) : hasR r x y = true ↔ r.x0 ≤ x ∧ x < r.x1 ∧ r.y0 ≤ y ∧ y < r.y1 := by simp [hasR]
theorem hasR_some (r : R) (x y : Int) : hasR (someR r) x y = hasR r x y := by
  unfold someR
  split
  · rename_i h
    have := (emptyR_iff r).1 h
    rw [Bool.eq_iff_iff, hasR_iff, hasR_iff]
    simp only [zeroR]
    omega
  · rfl
/-- Moved, far from the plane's ends. -/
theorem has_move (a0 a1 a2 a3 x y dx dy : Int) (h0 : -1048576 < a0 ∧ a0 ≤ 1048576) (h1 : -1048576 < a1 ∧ a1 ≤ 1048576) (h2 : -1048576 ≤ a2 ∧ a2 < 1048576) (h3 : -1048576 ≤ a3 ∧ a3 < 1048576) (hx : -1048576 < dx ∧ dx < 1048576) (hy : -1048576 < dy ∧ dy < 1048576) :
    hasR (moveR ⟨a0, a1, a2, a3⟩ dx dy) x y = hasR ⟨a0, a1, a2, a3⟩ (x - dx) (y - dy) := by
  unfold moveR
  split
  · rename_i h
    have := (emptyR_iff _).1 h
    simp only at this
    rw [Bool.eq_iff_iff, hasR_iff, hasR_iff]
    simp only [zeroR]
    omega
  · unfold wholeR movedN
    rw [hasR_some]
    simp only
    rw [if_neg (by omega), if_neg (by omega), if_neg (by omega), if_neg (by omega), cutN_in _ (by omega), cutN_in _ (by omega), cutN_in _ (by omega), cutN_in _ (by omega), Bool.eq_iff_iff, hasR_iff, hasR_iff]
    simp only
    omega
/-- Grown, far from the plane's ends. -/
theorem has_grow (a0 a1 a2 a3 x y d : Int) (h0 : -1048576 < a0 ∧ a0 ≤ 1048576) (h1 : -1048576 < a1 ∧ a1 ≤ 1048576) (h2 : -1048576 ≤ a2 ∧ a2 < 1048576) (h3 : -1048576 ≤ a3 ∧ a3 < 1048576) (hd : 0 ≤ d ∧ d ≤ 1000) :
    hasR (growR ⟨a0, a1, a2, a3⟩ d d d d) x y = (!emptyR ⟨a0, a1, a2, a3⟩ && (decide (a0 - d ≤ x) && (decide (x < a2 + d) && (decide (a1 - d ≤ y) && decide (y < a3 + d))))) := by
  unfold growR
  cases h : emptyR (⟨a0, a1, a2, a3⟩ : R)
  · simp only [Bool.false_eq_true, if_false]
    unfold wholeR
    rw [hasR_some]
    simp only
    rw [cutN_in _ (by omega), cutN_in _ (by omega), cutN_in _ (by omega), cutN_in _ (by omega)]
    simp [hasR]
  · simp only [if_true, Bool.not_true, Bool.false_and]
    rw [Bool.eq_false_iff, ne_eq, hasR_iff]
    simp only [zeroR]
    omega
end Go.Proofs.YtklcmlbkhjcaiaaDoor
/- Plain arithmetic of tones: what the program's products, quotients and cuts compute, as functions on whole numbers, and what follows. No program in sight. No conditions beyond those each lemma states. -/

namespace Go.Proofs.YtklcmlbkhjcaiaaDoor
set_option linter.unusedVariables false

/-- The product, by adding a half. -/
def mulT (a b : Int) : Int := (a * b + 127) / 255
/-- The quotient. -/
def divT (c a : Int) : Int := if a = 0 then 0 else min ((c * 255 * 2 + a) / (2 * a)) 255
/-- The nearest tone. -/
def cutT (n : Int) : Int := max 0 (min n 255)

theorem prod_nonneg (a b : Int) (ha : 0 ≤ a) (hb : 0 ≤ b) : 0 ≤ a * b := Int.mul_nonneg ha hb
theorem prod_le (a b : Int) (ha : 0 ≤ a) (ha' : a ≤ 255) (hb : 0 ≤ b) (hb' : b ≤ 255) : a * b ≤ 65025 := by
  have h1 : a * b ≤ 255 * b := Int.mul_le_mul_of_nonneg_right ha' hb
  omega

theorem mulT_bd (a b : Int) (ha : 0 ≤ a) (ha' : a ≤ 255) (hb : 0 ≤ b) (hb' : b ≤ 255) : 0 ≤ mulT a b ∧ mulT a b ≤ 255 := by
  have h1 := prod_nonneg a b ha hb
  have h2 := prod_le a b ha ha' hb hb'
  unfold mulT
  generalize a * b = p at *
  omega
theorem mulT_comm (a b : Int) : mulT a b = mulT b a := by unfold mulT; rw [Int.mul_comm]
theorem mulT_255 (a : Int) : mulT a 255 = a := by unfold mulT; omega
theorem mulT_0 (a : Int) : mulT a 0 = 0 := by unfold mulT; simp
theorem mulT_near (a b : Int) : 2 * (255 * mulT a b - a * b) < 255 ∧ -255 < 2 * (255 * mulT a b - a * b) := by
  unfold mulT
  generalize a * b = p
  omega
theorem mulT_mono (a a' b : Int) (h : a ≤ a') (hb : 0 ≤ b) : mulT a b ≤ mulT a' b := by
  have h1 : a * b ≤ a' * b := Int.mul_le_mul_of_nonneg_right h hb
  unfold mulT
  omega
theorem mulT_le (a b : Int) (ha : 0 ≤ a) (hb' : b ≤ 255) : mulT a b ≤ a := by
  have h1 : a * b ≤ a * 255 := Int.mul_le_mul_of_nonneg_left hb' ha
  unfold mulT
  omega

theorem divT_bd (c a : Int) (hc : 0 ≤ c) (ha : 0 ≤ a) : 0 ≤ divT c a ∧ divT c a ≤ 255 := by
  unfold divT
  by_cases h : a = 0
  · simp [h]
  · rw [if_neg h]
    have : 0 ≤ (c * 255 * 2 + a) / (2 * a) := Int.ediv_nonneg (by omega) (by omega)
    omega
theorem divT_mono (c c' a : Int) (h : c ≤ c') (ha : 0 ≤ a) : divT c a ≤ divT c' a := by
  unfold divT
  by_cases h0 : a = 0
  · simp [h0]
  · rw [if_neg h0, if_neg h0]
    have : (c * 255 * 2 + a) / (2 * a) ≤ (c' * 255 * 2 + a) / (2 * a) := Int.ediv_le_ediv (by omega) (by omega)
    omega
/-- A right value, made plain and thick again, is itself. -/
theorem mulT_divT (c a : Int) (hc : 0 ≤ c) (h : c ≤ a) (ha2 : a ≤ 255) : mulT (divT c a) a = c := by
  unfold mulT divT
  by_cases h0 : a = 0
  · subst h0
    have : c = 0 := by omega
    subst this
    decide
  · rw [if_neg h0]
    have ha : 0 < a := by omega
    have hq : (c * 255 * 2 + a) / (2 * a) ≤ 255 := by
      have : (c * 255 * 2 + a) / (2 * a) < 256 := Int.ediv_lt_of_lt_mul (by omega) (by omega)
      omega
    rw [show min ((c * 255 * 2 + a) / (2 * a)) 255 = (c * 255 * 2 + a) / (2 * a) from by omega]
    have e1 := Int.mul_ediv_add_emod (c * 255 * 2 + a) (2 * a)
    have e2 := Int.emod_nonneg (c * 255 * 2 + a) (b := 2 * a) (by omega)
    have e3 := Int.emod_lt_of_pos (c * 255 * 2 + a) (b := 2 * a) (by omega)
    generalize (c * 255 * 2 + a) % (2 * a) = m at *
    generalize (c * 255 * 2 + a) / (2 * a) = q at *
    have e4 : 2 * a * q = 2 * (q * a) := by rw [Int.mul_assoc, Int.mul_comm a q]
    rw [e4] at e1
    generalize q * a = t at *
    omega
theorem cutT_bd (n : Int) : 0 ≤ cutT n ∧ cutT n ≤ 255 := by unfold cutT; omega
theorem cutT_in (n : Int) (h : 0 ≤ n) (h' : n ≤ 255) : cutT n = n := by unfold cutT; omega

/-- The references' own ways. -/
theorem ref_mul (a b : Int) (ha : 0 ≤ a) (ha' : a ≤ 255) (hb : 0 ≤ b) (hb' : b ≤ 255) :
    (255 < 2 * (a * b - 255 * (a * b / 255)) → a * b / 255 + 1 = mulT a b) ∧ (¬ 255 < 2 * (a * b - 255 * (a * b / 255)) → a * b / 255 = mulT a b) := by
  unfold mulT
  generalize a * b = p
  omega
theorem ref_div (c a : Int) (hc : 0 ≤ c) (hc' : c ≤ 255) (ha : 0 < a) (ha' : a ≤ 255) :
    (a ≤ 2 * (255 * c - a * (255 * c / a)) → min (255 * c / a + 1) 255 = divT c a) ∧ (¬ a ≤ 2 * (255 * c - a * (255 * c / a)) → min (255 * c / a) 255 = divT c a) := by
  unfold divT
  rw [if_neg (by omega)]
  have e1 := Int.mul_ediv_add_emod (c * 255 * 2 + a) (2 * a)
  have e2 := Int.emod_nonneg (c * 255 * 2 + a) (b := 2 * a) (by omega)
  have e3 := Int.emod_lt_of_pos (c * 255 * 2 + a) (b := 2 * a) (by omega)
  have f1 := Int.mul_ediv_add_emod (255 * c) a
  have f2 := Int.emod_nonneg (255 * c) (b := a) (by omega)
  have f3 := Int.emod_lt_of_pos (255 * c) (b := a) (by omega)
  generalize (c * 255 * 2 + a) % (2 * a) = m at *
  generalize (c * 255 * 2 + a) / (2 * a) = q at *
  generalize (255 * c) % a = m2 at *
  generalize (255 * c) / a = q2 at *
  have e4 : 2 * a * q = 2 * (a * q) := by rw [Int.mul_assoc]
  rw [e4] at e1
  have k1 : q2 ≤ q := by
    have : a * q2 < a * (q + 1) := by rw [Int.mul_add]; omega
    have := Int.lt_of_mul_lt_mul_left this (by omega)
    omega
  have k2 : q ≤ q2 + 1 := by
    have : a * q < a * (q2 + 2) := by rw [Int.mul_add]; omega
    have := Int.lt_of_mul_lt_mul_left this (by omega)
    omega
  have k3 : q = q2 ∨ q = q2 + 1 := by omega
  rcases k3 with rfl | rfl
  · omega
  · rw [Int.mul_add] at e1
    omega
/-- Is a pixel right? -/
def rightT (r g b a : Int) : Bool := decide (r ≤ a) && (decide (g ≤ a) && decide (b ≤ a))
theorem rightT_iff (r g b a : Int) : rightT r g b a = true ↔ r ≤ a ∧ g ≤ a ∧ b ≤ a := by simp [rightT]
end Go.Proofs.YtklcmlbkhjcaiaaDoor

/- Pixels, and buffers as what stands at each point, in plain Lean. No program in sight. -/

namespace Go.Proofs.YtklcmlbkhjcaiaaDoor
set_option linter.unusedVariables false

structure P4 where
  r : Int
  g : Int
  b : Int
  a : Int

def noP : P4 := ⟨0, 0, 0, 0⟩
/-- Each of a pixel's four values is a byte. -/
def okP (p : P4) : Prop := (0 ≤ p.r ∧ p.r ≤ 255) ∧ (0 ≤ p.g ∧ p.g ≤ 255) ∧ (0 ≤ p.b ∧ p.b ≤ 255) ∧ (0 ≤ p.a ∧ p.a ≤ 255)
theorem okP_no : okP noP := by simp [okP, noP]
def eqP (p q : P4) : Bool := p.r == q.r && (p.g == q.g && (p.b == q.b && p.a == q.a))
theorem eqP_iff (p q : P4) : eqP p q = true ↔ p = q := by
  obtain ⟨p0, p1, p2, p3⟩ := p
  obtain ⟨q0, q1, q2, q3⟩ := q
  simp [eqP]
theorem eqP_self (p : P4) : eqP p p = true := (eqP_iff p p).2 rfl
/-- One of a pixel's four values. -/
def chan (p : P4) (c : Nat) : Int := if c = 0 then p.r else if c = 1 then p.g else if c = 2 then p.b else p.a
theorem chan_bd {p : P4} (h : okP p) (c : Nat) : 0 ≤ chan p c ∧ chan p c ≤ 255 := by
  obtain ⟨h0, h1, h2, h3⟩ := h
  unfold chan
  split
  · exact h0
  split
  · exact h1
  split
  · exact h2
  · exact h3
theorem chan_no (c : Nat) : chan noP c = 0 := by unfold chan noP; simp

/-- What stands at each point of the plane. -/
abbrev Img := Int → Int → P4

/-- A point's place in a rectangle, row by row. -/
def idxR (r : R) (x y : Int) : Int := (y - r.y0) * (r.x1 - r.x0) + x - r.x0
/-- The point of a place. -/
def ptX (r : R) (i : Nat) : Int := r.x0 + (i : Int) % (r.x1 - r.x0)
def ptY (r : R) (i : Nat) : Int := r.y0 + (i : Int) / (r.x1 - r.x0)

theorem hasR_zero (x y : Int) : hasR zeroR x y = false := by
  rw [Bool.eq_false_iff, ne_eq, hasR_iff]
  simp only [zeroR]
  omega
theorem hasR_empty {r : R} (h : emptyR r = true) (x y : Int) : hasR r x y = false := by
  have := (emptyR_iff r).1 h
  rw [Bool.eq_false_iff, ne_eq, hasR_iff]
  omega
theorem hasR_not_empty {r : R} {x y : Int} (h : hasR r x y = true) : emptyR r = false := by
  cases he : emptyR r
  · rfl
  · rw [hasR_empty he] at h; cases h

theorem idxR_bd {r : R} {x y : Int} (h : hasR r x y = true) : 0 ≤ (y - r.y0) * (r.x1 - r.x0) ∧ 0 ≤ idxR r x y ∧ idxR r x y < (r.x1 - r.x0) * (r.y1 - r.y0) := by
  have k := (hasR_iff r x y).1 h
  have h0 : 0 ≤ (y - r.y0) * (r.x1 - r.x0) := Int.mul_nonneg (by omega) (by omega)
  have h1 : (y - r.y0 + 1) * (r.x1 - r.x0) ≤ (r.y1 - r.y0) * (r.x1 - r.x0) := Int.mul_le_mul_of_nonneg_right (by omega) (by omega)
  rw [Int.add_mul, Int.one_mul, Int.mul_comm (r.y1 - r.y0)] at h1
  unfold idxR
  refine ⟨h0, ?_, ?_⟩ <;> omega
theorem ptX_idx {r : R} {x y : Int} (h : hasR r x y = true) : ptX r (idxR r x y).toNat = x := by
  have k := (hasR_iff r x y).1 h
  have hb := (idxR_bd h).2.1
  unfold ptX
  rw [Int.toNat_of_nonneg hb, show idxR r x y = (x - r.x0) + (y - r.y0) * (r.x1 - r.x0) from by unfold idxR; omega, Int.add_mul_emod_self_right, Int.emod_eq_of_lt (by omega) (by omega)]
  omega
theorem ptY_idx {r : R} {x y : Int} (h : hasR r x y = true) : ptY r (idxR r x y).toNat = y := by
  have k := (hasR_iff r x y).1 h
  have hb := (idxR_bd h).2.1
  unfold ptY
  rw [Int.toNat_of_nonneg hb, show idxR r x y = (x - r.x0) + (y - r.y0) * (r.x1 - r.x0) from by unfold idxR; omega, Int.add_mul_ediv_right _ _ (by omega), Int.ediv_eq_zero_of_lt (by omega) (by omega)]
  omega
theorem pt_has {r : R} {i : Nat} (he : emptyR r = false) (h : (i : Int) < (r.x1 - r.x0) * (r.y1 - r.y0)) : hasR r (ptX r i) (ptY r i) = true := by
  have k := (emptyR_not r).1 he
  rw [hasR_iff]
  unfold ptX ptY
  have h1 := Int.emod_nonneg (i : Int) (b := r.x1 - r.x0) (by omega)
  have h2 := Int.emod_lt_of_pos (i : Int) (b := r.x1 - r.x0) (by omega)
  have h3 : 0 ≤ (i : Int) / (r.x1 - r.x0) := Int.ediv_nonneg (by omega) (by omega)
  have h4 : (i : Int) / (r.x1 - r.x0) < r.y1 - r.y0 := Int.ediv_lt_of_lt_mul (by omega) (by rw [Int.mul_comm]; exact h)
  omega
theorem idx_pt {r : R} {i : Nat} (he : emptyR r = false) : idxR r (ptX r i) (ptY r i) = i := by
  have k := (emptyR_not r).1 he
  unfold idxR ptX ptY
  have := Int.mul_ediv_add_emod (i : Int) (r.x1 - r.x0)
  rw [Int.mul_comm] at this
  rw [show r.y0 + (i : Int) / (r.x1 - r.x0) - r.y0 = (i : Int) / (r.x1 - r.x0) from by omega]
  omega
theorem idxR_inj {r : R} {x y u v : Int} (h : hasR r x y = true) (k : hasR r u v = true) (e : idxR r x y = idxR r u v) : x = u ∧ y = v :=
  ⟨by rw [← ptX_idx h, ← ptX_idx k, e], by rw [← ptY_idx h, ← ptY_idx k, e]⟩

/-- A rectangle that lies in the plane and, if it has no points, is that of noughts. -/
structure GoodR (r : R) : Prop where
  near : rightR r = true
  zero : emptyR r = true → r = zeroR
theorem GoodR.bd {r : R} (h : GoodR r) : (-4398046511104 ≤ r.x0 ∧ r.x0 ≤ 4398046511104) ∧ (-4398046511104 ≤ r.y0 ∧ r.y0 ≤ 4398046511104) ∧ (-4398046511104 ≤ r.x1 ∧ r.x1 ≤ 4398046511104) ∧ (-4398046511104 ≤ r.y1 ∧ r.y1 ≤ 4398046511104) := (rightR_iff r).1 h.near
theorem GoodR.le {r : R} (h : GoodR r) : r.x0 ≤ r.x1 ∧ r.y0 ≤ r.y1 := by
  cases he : emptyR r
  · have := (emptyR_not r).1 he; omega
  · rw [h.zero he]; simp [zeroR]
theorem goodR_zero : GoodR zeroR := ⟨by decide, fun _ => rfl⟩
/-- How many points a rectangle has. -/
def cntR (r : R) : Nat := ((r.x1 - r.x0) * (r.y1 - r.y0)).toNat
theorem GoodR.cnt {r : R} (h : GoodR r) : (cntR r : Int) = (r.x1 - r.x0) * (r.y1 - r.y0) := by
  unfold cntR
  have := h.le
  exact Int.toNat_of_nonneg (Int.mul_nonneg (by omega) (by omega))
theorem GoodR.area {r : R} (h : GoodR r) (hl : areaR r < 2305843009213693952) : areaR r = cntR r := by
  rw [h.cnt]
  cases he : emptyR r
  · rw [areaR_eq r he] at hl ⊢; omega
  · rw [areaR_empty r he, h.zero he]; simp [zeroR]
theorem GoodR.area' {r : R} (h : GoodR r) (hl : cntR r < 2305843009213693952) : areaR r = cntR r := by
  have e := h.cnt
  cases he : emptyR r
  · rw [areaR_eq r he]; omega
  · rw [areaR_empty r he, e, h.zero he]; simp [zeroR]
theorem GoodR.idx {r : R} (h : GoodR r) {x y : Int} (k : hasR r x y = true) : (idxR r x y).toNat < cntR r := by
  have := idxR_bd k
  have := h.cnt
  omega
theorem GoodR.pt {r : R} (h : GoodR r) {i : Nat} (k : i < cntR r) : hasR r (ptX r i) (ptY r i) = true := by
  have e := h.cnt
  cases he : emptyR r
  · exact pt_has he (by omega)
  · rw [h.zero he] at k; have : cntR zeroR = 0 := by decide
    omega
theorem cnt_zero : cntR zeroR = 0 := by decide
theorem GoodR.cnt_empty {r : R} (h : GoodR r) (he : emptyR r = true) : cntR r = 0 := by rw [h.zero he]; exact cnt_zero

/-- An image that is nothing outside of a rectangle, and whose values are bytes. -/
structure Fits (r : R) (F : Img) : Prop where
  ok : ∀ x y, okP (F x y)
  out : ∀ x y, hasR r x y = false → F x y = noP
/-- What an image shows in a rectangle. -/
def cutF (r : R) (F : Img) : Img := fun x y => if hasR r x y = true then F x y else noP
theorem cutF_in {r : R} {F : Img} {x y : Int} (h : hasR r x y = true) : cutF r F x y = F x y := by simp [cutF, h]
theorem cutF_out {r : R} {F : Img} {x y : Int} (h : hasR r x y = false) : cutF r F x y = noP := by simp [cutF, h]
theorem Fits.cut {r s : R} {F : Img} (h : ∀ x y, hasR r x y = true → okP (F x y)) : Fits r (cutF r F) :=
  ⟨fun x y => by
    unfold cutF
    split
    · exact h x y ‹_›
    · exact okP_no, fun x y hn => cutF_out hn⟩
theorem Fits.cut_eq {r : R} {F : Img} (h : Fits r F) : cutF r F = F := by
  funext x y
  unfold cutF
  split
  · rfl
  · rename_i hn; exact (h.out x y (by simpa using hn)).symm
def noF : Img := fun _ _ => noP
theorem fits_no (r : R) : Fits r noF := ⟨fun _ _ => okP_no, fun _ _ _ => rfl⟩
/-- An image with one point turned. -/
def putF (r : R) (F : Img) (x y : Int) (p : P4) : Img := fun u v => if hasR r x y = true ∧ u = x ∧ v = y then p else F u v
theorem Fits.put {r : R} {F : Img} (h : Fits r F) {x y : Int} {p : P4} (hp : okP p) : Fits r (putF r F x y p) :=
  ⟨fun u v => by
    unfold putF
    split
    · exact hp
    · exact h.ok u v, fun u v hn => by
    unfold putF
    rw [if_neg]
    · exact h.out u v hn
    · rintro ⟨h1, rfl, rfl⟩
      rw [h1] at hn; cases hn⟩
/-- The image of a row of pixels in a rectangle. -/
def imgOf (r : R) (f : Nat → P4) : Img := fun x y => if hasR r x y = true then f (idxR r x y).toNat else noP
theorem fits_imgOf {r : R} {f : Nat → P4} (h : GoodR r) (hf : ∀ i, i < cntR r → okP (f i)) : Fits r (imgOf r f) :=
  ⟨fun x y => by
    unfold imgOf
    split
    · exact hf _ (h.idx ‹_›)
    · exact okP_no, fun x y hn => by simp [imgOf, hn]⟩
theorem imgOf_pt {r : R} {f : Nat → P4} (h : GoodR r) {i : Nat} (hi : i < cntR r) : imgOf r f (ptX r i) (ptY r i) = f i := by
  have hp := h.pt hi
  unfold imgOf
  rw [if_pos hp, idx_pt (hasR_not_empty hp)]
  simp

/-! Walked row by row. -/
theorem ptX_of {r : R} {x y : Int} {k : Nat} (h : hasR r x y = true) (hk : (k : Int) = idxR r x y) : ptX r k = x := by
  have := ptX_idx h
  rw [← hk] at this
  simpa using this
theorem ptY_of {r : R} {x y : Int} {k : Nat} (h : hasR r x y = true) (hk : (k : Int) = idxR r x y) : ptY r k = y := by
  have := ptY_idx h
  rw [← hk] at this
  simpa using this
theorem idx_next (r : R) (x y : Int) : idxR r (x + 1) y = idxR r x y + 1 := by unfold idxR; omega
theorem idx_row (r : R) (y : Int) : idxR r r.x1 y = idxR r r.x0 (y + 1) := by
  unfold idxR
  rw [show y + 1 - r.y0 = (y - r.y0) + 1 from by omega, Int.add_mul]
  omega
theorem idx_first (r : R) : idxR r r.x0 r.y0 = 0 := by unfold idxR; simp
theorem idx_last (r : R) : idxR r r.x0 r.y1 = (r.x1 - r.x0) * (r.y1 - r.y0) := by unfold idxR; rw [Int.mul_comm]; omega

/-! Filled, copied, windowed. -/
def fillF (r s : R) (p : P4) (F : Img) : Img := fun u v => if hasR r u v = true ∧ hasR s u v = true then p else F u v
def copyF (r s : R) (dx dy : Int) (F G : Img) : Img := fun u v => if hasR r u v = true ∧ hasR s u v = true then G (u - dx) (v - dy) else F u v
/-- Filled up to a point of a row. -/
def fillTo (m : R) (p : P4) (y x : Int) (F : Img) : Img := fun u v => if hasR m u v = true ∧ (v < y ∨ (v = y ∧ u < x)) then p else F u v
theorem good_some {r : R} (h : rightR r = true) : GoodR (someR r) := by
  unfold someR
  split
  · exact goodR_zero
  · exact ⟨h, fun he => absurd he (by assumption)⟩
theorem right_meet {a b : R} (ha : rightR a = true) (hb : rightR b = true) : rightR (meetR a b) = true := (rightR_iff _).2 (meetR_fits a b ha hb)
theorem good_meet {a b : R} (ha : rightR a = true) (hb : rightR b = true) : GoodR (meetR a b) := by
  refine ⟨right_meet ha hb, fun h => ?_⟩
  unfold meetR at h ⊢
  rw [emptyR_some] at h
  unfold someR
  rw [if_pos h]
theorem has_meet (a b : R) (x y : Int) : hasR (meetR a b) x y = (hasR a x y && hasR b x y) := by
  unfold meetR
  rw [hasR_some, Bool.eq_iff_iff, Bool.and_eq_true, hasR_iff, hasR_iff, hasR_iff]
  simp only [mxI_eq, mnI_eq]
  omega
theorem fillTo_first (m : R) (p : P4) (F : Img) : fillTo m p m.y0 m.x0 F = F := by
  funext u v
  unfold fillTo
  rw [if_neg]
  rintro ⟨h, k⟩
  have := (hasR_iff m u v).1 h
  omega
theorem fillTo_row (m : R) (p : P4) (y : Int) (F : Img) : fillTo m p y m.x1 F = fillTo m p (y + 1) m.x0 F := by
  funext u v
  unfold fillTo
  by_cases h : hasR m u v = true
  · have k := (hasR_iff m u v).1 h
    simp only [h, true_and]
    by_cases c : v < y ∨ (v = y ∧ u < m.x1)
    · rw [if_pos c, if_pos (by omega)]
    · rw [if_neg c, if_neg (by omega)]
  · simp [h]
theorem fillTo_next {r m : R} {p : P4} {y x : Int} {F : Img} (h : hasR m x y = true) (hr : hasR r x y = true) : putF r (fillTo m p y x F) x y p = fillTo m p y (x + 1) F := by
  funext u v
  unfold putF fillTo
  by_cases c : u = x ∧ v = y
  · obtain ⟨rfl, rfl⟩ := c
    rw [if_pos ⟨hr, rfl, rfl⟩, if_pos ⟨h, by omega⟩]
  · rw [if_neg (fun k => c ⟨k.2.1, k.2.2⟩)]
    by_cases d : hasR m u v = true ∧ (v < y ∨ (v = y ∧ u < x))
    · rw [if_pos d, if_pos ⟨d.1, by omega⟩]
    · rw [if_neg d, if_neg (fun k => d ⟨k.1, by omega⟩)]
theorem fillTo_last (r s : R) (p : P4) (F : Img) : fillTo (meetR s r) p (meetR s r).y1 (meetR s r).x0 F = fillF r s p F := by
  funext u v
  unfold fillTo fillF
  rw [has_meet]
  by_cases h : hasR s u v = true ∧ hasR r u v = true
  · have k : hasR (meetR s r) u v = true := by rw [has_meet, h.1, h.2]; rfl
    have := (hasR_iff _ u v).1 k
    rw [if_pos ⟨by rw [h.1, h.2]; rfl, by omega⟩, if_pos ⟨h.2, h.1⟩]
  · rw [if_neg (fun k => h (by simpa using k.1)), if_neg (fun k => h ⟨k.2, k.1⟩)]
end Go.Proofs.YtklcmlbkhjcaiaaDoor

/- What is moved, repeated, cut: plain facts. No program in sight. -/

namespace Go.Proofs.YtklcmlbkhjcaiaaDoor
set_option linter.unusedVariables false

/-- Repeated: the tile's point that a point shows. -/
def tileF (b t : R) (F : Img) : Img := cutF (someR b) (fun x y => F (t.x0 + (x - t.x0) % (t.x1 - t.x0)) (t.y0 + (y - t.y0) % (t.y1 - t.y0)))
/-- Moved. -/
def moveF (b : R) (dx dy : Int) (F : Img) : Img := copyF (someR b) (someR b) dx dy noF F
theorem moveF_doc (b : R) (dx dy : Int) (F : Img) : copyF (someR b) b dx dy noF F = moveF b dx dy F := by
  funext u v
  unfold moveF copyF
  rw [hasR_some]
theorem wrap_mod {n s : Int} (hs : 0 < s) : (n.tmod s + s).tmod s = n % s := by
  by_cases h : 0 ≤ n
  · rw [Int.tmod_eq_emod_of_nonneg h, Int.tmod_eq_emod_of_nonneg (by have := Int.emod_nonneg n (b := s) (by omega); omega), Int.add_emod_right, Int.emod_emod]
  · have h1 : n.tmod s = -((-n) % s) := by
      have := Int.neg_tmod (-n) s
      rw [Int.neg_neg] at this
      rw [this, Int.tmod_eq_emod_of_nonneg (by omega)]
    have h2 := Int.emod_nonneg (-n) (b := s) (by omega)
    have h3 := Int.emod_lt_of_pos (-n) hs
    rw [h1, Int.tmod_eq_emod_of_nonneg (by omega)]
    have e := Int.mul_ediv_add_emod (-n) s
    have e2 : n = -((-n) % s) + s * (-((-n) / s)) := by rw [Int.mul_neg]; omega
    have e3 : n % s = (-((-n) % s)) % s := by
      conv => lhs; rw [e2]
      rw [Int.add_mul_emod_self_left]
    rw [e3, Int.add_emod_right]
theorem back_mod {n s : Int} (hs : 0 < s) : (if n - n.tdiv s * s < 0 then n - n.tdiv s * s + s else n - n.tdiv s * s) = n % s := by
  have e0 : n - n.tdiv s * s = n.tmod s := by
    have := Int.mul_tdiv_add_tmod n s
    rw [Int.mul_comm] at this
    omega
  rw [e0, ← wrap_mod hs]
  have b := Int.tmod_lt_of_pos n hs
  have b2 : -s < n.tmod s := by
    have := Int.tmod_lt_of_pos (-n) hs
    rw [Int.neg_tmod] at this
    omega
  have e1 : (n.tmod s + s).tmod s = (n.tmod s + s) % s := Int.tmod_eq_emod_of_nonneg (by omega)
  rw [e1]
  split
  · rw [Int.emod_eq_of_lt (by omega) (by omega)]
  · rw [Int.add_emod_right, Int.emod_eq_of_lt (by omega) (by omega)]
end Go.Proofs.YtklcmlbkhjcaiaaDoor

/- Sums and means of windows of pixels, in plain Lean. No program in sight. -/

namespace Go.Proofs.YtklcmlbkhjcaiaaDoor
set_option linter.unusedVariables false

/-- A pixel added, so many times. -/
def addP (s p : P4) (t : Int) : P4 := ⟨s.r + t * p.r, s.g + t * p.g, s.b + t * p.b, s.a + t * p.a⟩
/-- The sums of n pixels, from a place on. -/
def sumP (f : Int → P4) (s : Int) : Nat → P4
  | 0 => noP
  | n + 1 => addP (sumP f s n) (f (s + (n : Int))) 1
theorem sumP_zero (f : Int → P4) (s : Int) : sumP f s 0 = noP := rfl
theorem sumP_succ (f : Int → P4) (s : Int) (n : Nat) : sumP f s (n + 1) = addP (sumP f s n) (f (s + (n : Int))) 1 := rfl
theorem sumP_head (f : Int → P4) (s : Int) (n : Nat) : sumP f s (n + 1) = addP (sumP f (s + 1) n) (f s) 1 := by
  induction n with
  | zero => simp [sumP]
  | succ n ih =>
    rw [sumP_succ, ih, sumP_succ f (s + 1) n, show s + ((n + 1 : Nat) : Int) = s + 1 + (n : Int) from by omega]
    simp only [addP, P4.mk.injEq]
    omega
/-- What leaves the window at its head. -/
theorem sumP_drop (f : Int → P4) (s : Int) (n : Nat) : addP (sumP f s (n + 1)) (f s) (-1) = sumP f (s + 1) n := by
  rw [sumP_head]
  obtain ⟨a, b, c, d⟩ := sumP f (s + 1) n
  simp only [addP, P4.mk.injEq]
  omega
theorem sumP_bd {f : Int → P4} (h : ∀ x, okP (f x)) (s : Int) : ∀ n : Nat, (0 ≤ (sumP f s n).r ∧ (sumP f s n).r ≤ 255 * n) ∧ (0 ≤ (sumP f s n).g ∧ (sumP f s n).g ≤ 255 * n) ∧ (0 ≤ (sumP f s n).b ∧ (sumP f s n).b ≤ 255 * n) ∧ (0 ≤ (sumP f s n).a ∧ (sumP f s n).a ≤ 255 * n)
  | 0 => by simp [sumP, noP]
  | n + 1 => by
    have ih := sumP_bd h s n
    have hp := h (s + (n : Int))
    unfold okP at hp
    rw [sumP_succ]
    simp only [addP]
    omega
theorem sumP_congr {f g : Int → P4} (s : Int) : ∀ n : Nat, (∀ k : Nat, k < n → f (s + k) = g (s + k)) → sumP f s n = sumP g s n
  | 0, _ => rfl
  | n + 1, h => by rw [sumP_succ, sumP_succ, sumP_congr s n (fun k hk => h k (by omega)), h n (by omega)]
theorem sumP_no (s : Int) : ∀ n : Nat, sumP (fun _ => noP) s n = noP
  | 0 => rfl
  | n + 1 => by rw [sumP_succ, sumP_no s n]; rfl
theorem sumP_same (p : P4) (s : Int) : ∀ n : Nat, sumP (fun _ => p) s n = ⟨n * p.r, n * p.g, n * p.b, n * p.a⟩
  | 0 => by simp [sumP, noP]
  | n + 1 => by
    rw [sumP_succ, sumP_same p s n]
    simp only [addP, P4.mk.injEq, Int.natCast_add, Int.add_mul]
    simp

/-- The number nearest to an n-th of a sum. -/
def near (s n : Int) : Int := (s + n / 2) / n
theorem near_bd {s n : Int} (hn : 0 < n) (h0 : 0 ≤ s) (h1 : s ≤ 255 * n) (ho : n % 2 = 1) : 0 ≤ near s n ∧ near s n ≤ 255 := by
  unfold near
  refine ⟨Int.ediv_nonneg (by omega) (by omega), ?_⟩
  have : (s + n / 2) / n < 256 := Int.ediv_lt_of_lt_mul hn (by omega)
  omega
/-- What the document says of it. -/
theorem near_doc {s n : Int} (hn : 0 < n) (h0 : 0 ≤ s) (ho : n % 2 = 1) : near s n = if 2 * (s - s / n * n) > n then s / n + 1 else s / n := by
  unfold near
  have e := Int.mul_ediv_add_emod s n
  have m0 := Int.emod_nonneg s (b := n) (by omega)
  have m1 := Int.emod_lt_of_pos s hn
  have hc : s / n * n = n * (s / n) := Int.mul_comm _ _
  have e1 : s - s / n * n = s % n := by omega
  rw [e1]
  have e2 : s + n / 2 = (s % n + n / 2) + n * (s / n) := by omega
  rw [e2, Int.add_mul_ediv_left _ _ (by omega)]
  split
  · have : (s % n + n / 2) / n = 1 := by
      have a : 1 ≤ (s % n + n / 2) / n := Int.le_ediv_of_mul_le hn (by omega)
      have b : (s % n + n / 2) / n < 2 := Int.ediv_lt_of_lt_mul hn (by omega)
      omega
    omega
  · have : (s % n + n / 2) / n = 0 := Int.ediv_eq_zero_of_lt (by omega) (by omega)
    omega
/-- It lies less than half a number off. -/
theorem near_close {s n : Int} (hn : 0 < n) (ho : n % 2 = 1) : 2 * (near s n * n - s) < n ∧ -n < 2 * (near s n * n - s) := by
  unfold near
  have e := Int.mul_ediv_add_emod (s + n / 2) n
  have m0 := Int.emod_nonneg (s + n / 2) (b := n) (by omega)
  have m1 := Int.emod_lt_of_pos (s + n / 2) hn
  have hc : (s + n / 2) / n * n = n * ((s + n / 2) / n) := Int.mul_comm _ _
  omega
theorem near_mul {p n : Int} (hn : 0 < n) (ho : n % 2 = 1) : near (n * p) n = p := by
  unfold near
  rw [Int.add_comm, Int.add_mul_ediv_left _ _ (by omega), Int.ediv_eq_zero_of_lt (by omega) (by omega)]
  omega

/-- The means of so many. -/
def meanP (s : P4) (n : Int) : P4 := ⟨near s.r n, near s.g n, near s.b n, near s.a n⟩
/-- How many a window of a radius holds. -/
def winN (r : Int) : Nat := (2 * r + 1).toNat
theorem winN_eq {r : Int} (h : 0 ≤ r) : ((winN r : Nat) : Int) = 2 * r + 1 := by unfold winN; omega
def blurH (F : Img) (r : Int) : Img := fun x y => meanP (sumP (fun u => F u y) (x - r) (winN r)) (2 * r + 1)
def blurV (F : Img) (r : Int) : Img := fun x y => meanP (sumP (fun v => F x v) (y - r) (winN r)) (2 * r + 1)
theorem meanP_ok {f : Int → P4} (h : ∀ x, okP (f x)) (s r : Int) (hr : 0 ≤ r) : okP (meanP (sumP f s (winN r)) (2 * r + 1)) := by
  have b := sumP_bd h s (winN r)
  rw [winN_eq hr] at b
  obtain ⟨b0, b1, b2, b3⟩ := b
  exact ⟨near_bd (by omega) b0.1 b0.2 (by omega), near_bd (by omega) b1.1 b1.2 (by omega), near_bd (by omega) b2.1 b2.2 (by omega), near_bd (by omega) b3.1 b3.2 (by omega)⟩
theorem blurH_ok {F : Img} (h : ∀ x y, okP (F x y)) {r : Int} (hr : 0 ≤ r) (x y : Int) : okP (blurH F r x y) := meanP_ok (fun u => h u y) _ r hr
theorem blurV_ok {F : Img} (h : ∀ x y, okP (F x y)) {r : Int} (hr : 0 ≤ r) (x y : Int) : okP (blurV F r x y) := meanP_ok (fun v => h x v) _ r hr
theorem meanP_no {n : Int} (hn : 0 < n) : meanP noP n = noP := by
  simp only [meanP, noP, near, P4.mk.injEq]
  have : (0 + n / 2) / n = 0 := Int.ediv_eq_zero_of_lt (by omega) (by omega)
  omega
theorem meanP_same {p : P4} {r : Int} (hr : 0 ≤ r) (s : Int) : meanP (sumP (fun _ => p) s (winN r)) (2 * r + 1) = p := by
  rw [sumP_same, winN_eq hr]
  simp only [meanP, near_mul (n := 2 * r + 1) (by omega) (by omega)]
/-- By nought nothing changes. -/
theorem blurH_zero (F : Img) : blurH F 0 = F := by
  funext x y
  show meanP (sumP (fun u => F u y) (x - 0) 1) 1 = F x y
  rw [sumP_succ, sumP_zero]
  have : x - 0 + ((0 : Nat) : Int) = x := by omega
  rw [this]
  simp [meanP, addP, noP, near]
theorem blurV_zero (F : Img) : blurV F 0 = F := by
  funext x y
  show meanP (sumP (fun v => F x v) (y - 0) 1) 1 = F x y
  rw [sumP_succ, sumP_zero]
  have : y - 0 + ((0 : Nat) : Int) = y := by omega
  rw [this]
  simp [meanP, addP, noP, near]
/-- In a row that shows nothing nothing stands. -/
theorem blurH_out {F : Img} {r y : Int} (hr : 0 ≤ r) (h : ∀ x, F x y = noP) (x : Int) : blurH F r x y = noP := by
  unfold blurH
  rw [show (fun u => F u y) = fun _ => noP from funext h, sumP_no, meanP_no (by omega)]

/-! Written row by row, or column by column. -/
def upTo (m : R) (G : Img) (y x : Int) (F : Img) : Img := fun u v => if hasR m u v = true ∧ (v < y ∨ (v = y ∧ u < x)) then G u v else F u v
def upToC (m : R) (G : Img) (x y : Int) (F : Img) : Img := fun u v => if hasR m u v = true ∧ (u < x ∨ (u = x ∧ v < y)) then G u v else F u v
theorem upTo_first (m : R) (G F : Img) : upTo m G m.y0 m.x0 F = F := by
  funext u v
  unfold upTo
  rw [if_neg]
  rintro ⟨h, k⟩
  have := (hasR_iff m u v).1 h
  omega
theorem upToC_first (m : R) (G F : Img) : upToC m G m.x0 m.y0 F = F := by
  funext u v
  unfold upToC
  rw [if_neg]
  rintro ⟨h, k⟩
  have := (hasR_iff m u v).1 h
  omega
theorem upTo_next {m : R} {G F : Img} {y x : Int} (h : hasR m x y = true) : putF m (upTo m G y x F) x y (G x y) = upTo m G y (x + 1) F := by
  funext u v
  unfold putF upTo
  by_cases c : u = x ∧ v = y
  · obtain ⟨rfl, rfl⟩ := c
    rw [if_pos ⟨h, rfl, rfl⟩, if_pos ⟨h, by omega⟩]
  · rw [if_neg (fun k => c ⟨k.2.1, k.2.2⟩)]
    by_cases d : hasR m u v = true ∧ (v < y ∨ (v = y ∧ u < x))
    · rw [if_pos d, if_pos ⟨d.1, by omega⟩]
    · rw [if_neg d, if_neg (fun k => d ⟨k.1, by omega⟩)]
theorem upToC_next {m : R} {G F : Img} {x y : Int} (h : hasR m x y = true) : putF m (upToC m G x y F) x y (G x y) = upToC m G x (y + 1) F := by
  funext u v
  unfold putF upToC
  by_cases c : u = x ∧ v = y
  · obtain ⟨rfl, rfl⟩ := c
    rw [if_pos ⟨h, rfl, rfl⟩, if_pos ⟨h, by omega⟩]
  · rw [if_neg (fun k => c ⟨k.2.1, k.2.2⟩)]
    by_cases d : hasR m u v = true ∧ (u < x ∨ (u = x ∧ v < y))
    · rw [if_pos d, if_pos ⟨d.1, by omega⟩]
    · rw [if_neg d, if_neg (fun k => d ⟨k.1, by omega⟩)]
theorem upTo_row (m : R) (G F : Img) (y : Int) : upTo m G y m.x1 F = upTo m G (y + 1) m.x0 F := by
  funext u v
  unfold upTo
  by_cases h : hasR m u v = true
  · have k := (hasR_iff m u v).1 h
    simp only [h, true_and]
    by_cases c : v < y ∨ (v = y ∧ u < m.x1)
    · rw [if_pos c, if_pos (by omega)]
    · rw [if_neg c, if_neg (by omega)]
  · simp [h]
theorem upToC_col (m : R) (G F : Img) (x : Int) : upToC m G x m.y1 F = upToC m G (x + 1) m.y0 F := by
  funext u v
  unfold upToC
  by_cases h : hasR m u v = true
  · have k := (hasR_iff m u v).1 h
    simp only [h, true_and]
    by_cases c : u < x ∨ (u = x ∧ v < m.y1)
    · rw [if_pos c, if_pos (by omega)]
    · rw [if_neg c, if_neg (by omega)]
  · simp [h]
theorem upTo_last (m : R) (G : Img) : upTo m G m.y1 m.x0 noF = cutF m G := by
  funext u v
  unfold upTo cutF noF
  by_cases h : hasR m u v = true
  · have k := (hasR_iff m u v).1 h
    rw [if_pos ⟨h, by omega⟩, if_pos h]
  · rw [if_neg (fun k => h k.1), if_neg h]
theorem upToC_last (m : R) (G : Img) : upToC m G m.x1 m.y0 noF = cutF m G := by
  funext u v
  unfold upToC cutF noF
  by_cases h : hasR m u v = true
  · have k := (hasR_iff m u v).1 h
    rw [if_pos ⟨h, by omega⟩, if_pos h]
  · rw [if_neg (fun k => h k.1), if_neg h]
/-- A row in which nothing is to be written. -/
theorem upTo_skip {m : R} {G : Img} {y : Int} (h : ∀ x, G x y = noP) : upTo m G y m.x0 noF = upTo m G (y + 1) m.x0 noF := by
  funext u v
  unfold upTo noF
  by_cases hm : hasR m u v = true
  · have k := (hasR_iff m u v).1 hm
    by_cases c : v < y
    · rw [if_pos ⟨hm, Or.inl c⟩, if_pos ⟨hm, by omega⟩]
    · rw [if_neg (by omega)]
      by_cases d : v = y
      · subst d; rw [if_pos ⟨hm, by omega⟩, h]
      · rw [if_neg (by omega)]
  · rw [if_neg (fun k => hm k.1), if_neg (fun k => hm k.1)]
theorem Fits.upTo {m : R} {G : Img} (h : ∀ x y, okP (G x y)) (y x : Int) : Fits m (upTo m G y x noF) :=
  ⟨fun u v => by
    unfold Go.Proofs.YtklcmlbkhjcaiaaDoor.upTo
    split
    · exact h u v
    · exact okP_no, fun u v hn => by
    unfold Go.Proofs.YtklcmlbkhjcaiaaDoor.upTo
    rw [if_neg (fun k => by rw [hn] at k; exact absurd k.1 (by simp))]
    rfl⟩
theorem Fits.upToC {m : R} {G : Img} (h : ∀ x y, okP (G x y)) (x y : Int) : Fits m (upToC m G x y noF) :=
  ⟨fun u v => by
    unfold Go.Proofs.YtklcmlbkhjcaiaaDoor.upToC
    split
    · exact h u v
    · exact okP_no, fun u v hn => by
    unfold Go.Proofs.YtklcmlbkhjcaiaaDoor.upToC
    rw [if_neg (fun k => by rw [hn] at k; exact absurd k.1 (by simp))]
    rfl⟩
end Go.Proofs.YtklcmlbkhjcaiaaDoor

/- The greatest of windows of bytes, and the queue that tells it, in plain Lean. No program in sight. -/

namespace Go.Proofs.YtklcmlbkhjcaiaaDoor
set_option linter.unusedVariables false

/-- The greatest of n numbers, from a place on; of none it is 0. -/
def mxW (f : Int → Int) (s : Int) : Nat → Int
  | 0 => 0
  | n + 1 => if mxW f s n ≤ f (s + (n : Int)) then f (s + (n : Int)) else mxW f s n
theorem mxW_succ (f : Int → Int) (s : Int) (n : Nat) : mxW f s (n + 1) = if mxW f s n ≤ f (s + (n : Int)) then f (s + (n : Int)) else mxW f s n := rfl
theorem mxW_ge (f : Int → Int) (s : Int) : ∀ n k : Nat, k < n → f (s + (k : Int)) ≤ mxW f s n
  | 0, k, h => by omega
  | n + 1, k, h => by
    rw [mxW_succ]
    by_cases e : k = n
    · subst e; split <;> omega
    · have := mxW_ge f s n k (by omega)
      split <;> omega
theorem mxW_is {f : Int → Int} (h : ∀ x, 0 ≤ f x) (s : Int) : ∀ n : Nat, 0 < n → ∃ k : Nat, k < n ∧ mxW f s n = f (s + (k : Int))
  | n + 1, _ => by
    rw [mxW_succ]
    split
    · exact ⟨n, by omega, rfl⟩
    · rename_i hc
      cases n with
      | zero => exact absurd (h _) hc
      | succ n => obtain ⟨k, hk, e⟩ := mxW_is h s (n + 1) (by omega); exact ⟨k, by omega, e⟩
theorem mxW_bd {f : Int → Int} (h : ∀ x, 0 ≤ f x ∧ f x ≤ 255) (s : Int) : ∀ n : Nat, 0 ≤ mxW f s n ∧ mxW f s n ≤ 255
  | 0 => by simp [mxW]
  | n + 1 => by
    rw [mxW_succ]
    have := mxW_bd h s n
    split
    · exact h _
    · exact this
theorem mxW_of {f : Int → Int} {s : Int} {n : Nat} {m : Int} (h : ∀ x, 0 ≤ f x) (hge : ∀ k : Nat, k < n → f (s + (k : Int)) ≤ m) (k : Nat) (hk : k < n) (e : m = f (s + (k : Int))) : mxW f s n = m := by
  have h1 := mxW_ge f s n k hk
  obtain ⟨j, hj, e2⟩ := mxW_is h s n (by omega)
  have := hge j hj
  omega
theorem mxW_le {f : Int → Int} {s m : Int} (h0 : 0 ≤ m) : ∀ n : Nat, (∀ k : Nat, k < n → f (s + (k : Int)) ≤ m) → mxW f s n ≤ m
  | 0, _ => h0
  | n + 1, h => by
    rw [mxW_succ]
    have h1 := mxW_le h0 n (fun k hk => h k (by omega))
    have h2 := h n (by omega)
    split <;> omega
theorem mxW_congr {f g : Int → Int} {s t : Int} : ∀ n : Nat, (∀ k : Nat, k < n → f (s + (k : Int)) = g (t + (k : Int))) → mxW f s n = mxW g t n
  | 0, _ => rfl
  | n + 1, h => by rw [mxW_succ, mxW_succ, mxW_congr n (fun k hk => h k (by omega)), h n (by omega)]
theorem mxW_mono {f g : Int → Int} (h : ∀ x, f x ≤ g x) (s : Int) : ∀ n : Nat, mxW f s n ≤ mxW g s n
  | 0 => Int.le_refl _
  | n + 1 => by
    rw [mxW_succ, mxW_succ]
    have h1 := mxW_mono h s n
    have h2 := h (s + (n : Int))
    split <;> split <;> omega
theorem mxW_one {f : Int → Int} (h : ∀ x, 0 ≤ f x) (s : Int) : mxW f s 1 = f s := by
  rw [mxW_succ]
  have e : s + ((0 : Nat) : Int) = s := by omega
  rw [e]
  exact if_pos (h s)

/-- A byte, turned over or not. -/
def turnV (k : Bool) (v : Int) : Int := if k = true then v else 255 - v
theorem turnV_turn (k : Bool) (v : Int) : turnV k (turnV k v) = v := by unfold turnV; split <;> omega
theorem turnV_bd (k : Bool) {v : Int} (h : 0 ≤ v ∧ v ≤ 255) : 0 ≤ turnV k v ∧ turnV k v ≤ 255 := by unfold turnV; split <;> omega
def turnP (k : Bool) (p : P4) : P4 := ⟨turnV k p.r, turnV k p.g, turnV k p.b, turnV k p.a⟩
theorem turnP_turn (k : Bool) (p : P4) : turnP k (turnP k p) = p := by simp only [turnP, turnV_turn]
theorem turnP_ok (k : Bool) {p : P4} (h : okP p) : okP (turnP k p) := ⟨turnV_bd k h.1, turnV_bd k h.2.1, turnV_bd k h.2.2.1, turnV_bd k h.2.2.2⟩
theorem turnP_chan (k : Bool) (p : P4) {c : Nat} : chan (turnP k p) c = turnV k (chan p c) := by
  unfold chan turnP
  split
  · rfl
  split
  · rfl
  split <;> rfl
/-- The greatest of n pixels, value by value. -/
def winP (f : Int → P4) (s : Int) (n : Nat) : P4 := ⟨mxW (fun x => (f x).r) s n, mxW (fun x => (f x).g) s n, mxW (fun x => (f x).b) s n, mxW (fun x => (f x).a) s n⟩
theorem winP_ok {f : Int → P4} (h : ∀ x, okP (f x)) (s : Int) (n : Nat) : okP (winP f s n) := ⟨mxW_bd (fun x => (h x).1) s n, mxW_bd (fun x => (h x).2.1) s n, mxW_bd (fun x => (h x).2.2.1) s n, mxW_bd (fun x => (h x).2.2.2) s n⟩
theorem winP_chan (f : Int → P4) (s : Int) (n c : Nat) : chan (winP f s n) c = mxW (fun x => chan (f x) c) s n := by
  unfold chan winP
  by_cases h0 : c = 0
  · simp only [h0, if_true]
  by_cases h1 : c = 1
  · simp only [h1, if_true]; rfl
  by_cases h2 : c = 2
  · simp only [h2, if_true]; rfl
  simp only [h0, h1, h2, if_false]
theorem p4_ext {p q : P4} (h : ∀ c, c < 4 → chan p c = chan q c) : p = q := by
  obtain ⟨p0, p1, p2, p3⟩ := p
  obtain ⟨q0, q1, q2, q3⟩ := q
  have h0 := h 0 (by omega)
  have h1 := h 1 (by omega)
  have h2 := h 2 (by omega)
  have h3 := h 3 (by omega)
  simp only [chan] at h0 h1 h2 h3
  simp at h0 h1 h2 h3
  simp [h0, h1, h2, h3]
theorem okP_chan {p : P4} (h : ∀ c, c < 4 → 0 ≤ chan p c ∧ chan p c ≤ 255) : okP p := by
  have h0 := h 0 (by omega)
  have h1 := h 1 (by omega)
  have h2 := h 2 (by omega)
  have h3 := h 3 (by omega)
  simp only [chan] at h0 h1 h2 h3
  simp at h0 h1 h2 h3
  exact ⟨h0, h1, h2, h3⟩
/-- The greatest (or the least) along a row; along a column. -/
def morphH (k : Bool) (F : Img) (r : Int) : Img := fun x y => turnP k (winP (fun u => turnP k (F u y)) (x - r) (winN r))
def morphV (k : Bool) (F : Img) (r : Int) : Img := fun x y => turnP k (winP (fun v => turnP k (F x v)) (y - r) (winN r))
theorem morphH_ok {F : Img} (h : ∀ x y, okP (F x y)) (k : Bool) (r x y : Int) : okP (morphH k F r x y) := turnP_ok k (winP_ok (fun u => turnP_ok k (h u y)) _ _)
theorem morphV_ok {F : Img} (h : ∀ x y, okP (F x y)) (k : Bool) (r x y : Int) : okP (morphV k F r x y) := turnP_ok k (winP_ok (fun v => turnP_ok k (h x v)) _ _)
theorem morphH_chan (k : Bool) (F : Img) (r x y : Int) (c : Nat) : chan (morphH k F r x y) c = turnV k (mxW (fun u => turnV k (chan (F u y) c)) (x - r) (winN r)) := by
  unfold morphH
  rw [turnP_chan, winP_chan]
  simp only [turnP_chan]
theorem morphV_chan (k : Bool) (F : Img) (r x y : Int) (c : Nat) : chan (morphV k F r x y) c = turnV k (mxW (fun v => turnV k (chan (F x v) c)) (y - r) (winN r)) := by
  unfold morphV
  rw [turnP_chan, winP_chan]
  simp only [turnP_chan]
theorem winP_one {f : Int → P4} (h : ∀ x, okP (f x)) (s : Int) : winP f s 1 = f s := by
  unfold winP
  rw [mxW_one (fun x => (h x).1.1), mxW_one (fun x => (h x).2.1.1), mxW_one (fun x => (h x).2.2.1.1), mxW_one (fun x => (h x).2.2.2.1)]
theorem morphH_zero {F : Img} (h : ∀ x y, okP (F x y)) (k : Bool) : morphH k F 0 = F := by
  funext x y
  show turnP k (winP (fun u => turnP k (F u y)) (x - 0) 1) = F x y
  rw [winP_one (fun u => turnP_ok k (h u y)), Int.sub_zero, turnP_turn]
theorem morphV_zero {F : Img} (h : ∀ x y, okP (F x y)) (k : Bool) : morphV k F 0 = F := by
  funext x y
  show turnP k (winP (fun v => turnP k (F x v)) (y - 0) 1) = F x y
  rw [winP_one (fun v => turnP_ok k (h x v)), Int.sub_zero, turnP_turn]

/-! A row is written value by value: which of a pixel's values are there. -/
def mixC (c : Nat) (p q : P4) : P4 := ⟨if 0 < c then p.r else q.r, if 1 < c then p.g else q.g, if 2 < c then p.b else q.b, if 3 < c then p.a else q.a⟩
theorem mixC_zero (p q : P4) : mixC 0 p q = q := by simp [mixC]
theorem mixC_four (p q : P4) : mixC 4 p q = p := by simp [mixC]
theorem mixC_ok {c : Nat} {p q : P4} (hp : okP p) (hq : okP q) : okP (mixC c p q) := by
  unfold mixC okP at *
  refine ⟨?_, ?_, ?_, ?_⟩ <;> simp only <;> split <;> omega
/-- Row y: up to x the values before c + 1, from x on those before c. -/
def rowC (m : R) (G : Img) (c : Nat) (y x : Int) : Img := fun u v => if hasR m u v = true then (if v < y then G u v else if v = y then (if u < x then mixC (c + 1) (G u v) noP else mixC c (G u v) noP) else noP) else noP
def colC (m : R) (G : Img) (c : Nat) (x y : Int) : Img := fun u v => if hasR m u v = true then (if u < x then G u v else if u = x then (if v < y then mixC (c + 1) (G u v) noP else mixC c (G u v) noP) else noP) else noP
theorem rowC_first (m : R) (G : Img) (y : Int) : rowC m G 0 y m.x0 = upTo m G y m.x0 noF := by
  funext u v
  unfold rowC upTo noF
  by_cases h : hasR m u v = true
  · have k := (hasR_iff m u v).1 h
    rw [if_pos h]
    by_cases c : v < y
    · rw [if_pos c, if_pos ⟨h, Or.inl c⟩]
    · rw [if_neg c]
      by_cases d : v = y
      · rw [if_pos d, if_neg (show ¬ u < m.x0 by omega), mixC_zero, if_neg (show ¬ (hasR m u v = true ∧ (v < y ∨ (v = y ∧ u < m.x0))) by omega)]
      · rw [if_neg d, if_neg (show ¬ (hasR m u v = true ∧ (v < y ∨ (v = y ∧ u < m.x0))) by omega)]
  · rw [if_neg h, if_neg (fun k => h k.1)]
theorem colC_first (m : R) (G : Img) (x : Int) : colC m G 0 x m.y0 = upToC m G x m.y0 noF := by
  funext u v
  unfold colC upToC noF
  by_cases h : hasR m u v = true
  · have k := (hasR_iff m u v).1 h
    rw [if_pos h]
    by_cases c : u < x
    · rw [if_pos c, if_pos ⟨h, Or.inl c⟩]
    · rw [if_neg c]
      by_cases d : u = x
      · rw [if_pos d, if_neg (show ¬ v < m.y0 by omega), mixC_zero, if_neg (show ¬ (hasR m u v = true ∧ (u < x ∨ (u = x ∧ v < m.y0))) by omega)]
      · rw [if_neg d, if_neg (show ¬ (hasR m u v = true ∧ (u < x ∨ (u = x ∧ v < m.y0))) by omega)]
  · rw [if_neg h, if_neg (fun k => h k.1)]
theorem rowC_turn (m : R) (G : Img) (c : Nat) (y : Int) : rowC m G c y m.x1 = rowC m G (c + 1) y m.x0 := by
  funext u v
  unfold rowC
  by_cases h : hasR m u v = true
  · have k := (hasR_iff m u v).1 h
    rw [if_pos h, if_pos h]
    by_cases cy : v < y
    · rw [if_pos cy, if_pos cy]
    rw [if_neg cy, if_neg cy]
    by_cases d : v = y
    · rw [if_pos d, if_pos d, if_pos (show u < m.x1 by omega), if_neg (show ¬ u < m.x0 by omega)]
    · rw [if_neg d, if_neg d]
  · rw [if_neg h, if_neg h]
theorem colC_turn (m : R) (G : Img) (c : Nat) (x : Int) : colC m G c x m.y1 = colC m G (c + 1) x m.y0 := by
  funext u v
  unfold colC
  by_cases h : hasR m u v = true
  · have k := (hasR_iff m u v).1 h
    rw [if_pos h, if_pos h]
    by_cases cy : u < x
    · rw [if_pos cy, if_pos cy]
    rw [if_neg cy, if_neg cy]
    by_cases d : u = x
    · rw [if_pos d, if_pos d, if_pos (show v < m.y1 by omega), if_neg (show ¬ v < m.y0 by omega)]
    · rw [if_neg d, if_neg d]
  · rw [if_neg h, if_neg h]
theorem rowC_last (m : R) (G : Img) (y : Int) : rowC m G 4 y m.x0 = upTo m G (y + 1) m.x0 noF := by
  funext u v
  unfold rowC upTo noF
  by_cases h : hasR m u v = true
  · have k := (hasR_iff m u v).1 h
    rw [if_pos h]
    by_cases c : v < y
    · rw [if_pos c, if_pos ⟨h, by omega⟩]
    · rw [if_neg c]
      by_cases d : v = y
      · rw [if_pos d, if_neg (by omega), mixC_four, if_pos ⟨h, by omega⟩]
      · rw [if_neg d, if_neg (by omega)]
  · rw [if_neg h, if_neg (fun k => h k.1)]
theorem colC_last (m : R) (G : Img) (x : Int) : colC m G 4 x m.y0 = upToC m G (x + 1) m.y0 noF := by
  funext u v
  unfold colC upToC noF
  by_cases h : hasR m u v = true
  · have k := (hasR_iff m u v).1 h
    rw [if_pos h]
    by_cases c : u < x
    · rw [if_pos c, if_pos ⟨h, by omega⟩]
    · rw [if_neg c]
      by_cases d : u = x
      · rw [if_pos d, if_neg (by omega), mixC_four, if_pos ⟨h, by omega⟩]
      · rw [if_neg d, if_neg (by omega)]
  · rw [if_neg h, if_neg (fun k => h k.1)]
theorem rowC_at {m : R} {G : Img} {c : Nat} {y x : Int} (h : hasR m x y = true) : rowC m G c y x x y = mixC c (G x y) noP := by
  unfold rowC
  rw [if_pos h, if_neg (by omega), if_pos rfl, if_neg (by omega)]
theorem colC_at {m : R} {G : Img} {c : Nat} {x y : Int} (h : hasR m x y = true) : colC m G c x y x y = mixC c (G x y) noP := by
  unfold colC
  rw [if_pos h, if_neg (by omega), if_pos rfl, if_neg (by omega)]
theorem rowC_next {m : R} {G : Img} {c : Nat} {y x : Int} (h : hasR m x y = true) : putF m (rowC m G c y x) x y (mixC (c + 1) (G x y) noP) = rowC m G c y (x + 1) := by
  funext u v
  unfold putF rowC
  by_cases e : u = x ∧ v = y
  · obtain ⟨rfl, rfl⟩ := e
    rw [if_pos ⟨h, rfl, rfl⟩, if_pos h, if_neg (by omega), if_pos rfl, if_pos (by omega)]
  · rw [if_neg (fun k => e ⟨k.2.1, k.2.2⟩)]
    by_cases hm : hasR m u v = true
    · rw [if_pos hm, if_pos hm]
      by_cases d : v = y
      · rw [if_pos d, if_pos d]
        by_cases d2 : u < x
        · rw [if_pos d2, if_pos (show u < x + 1 by omega)]
        · rw [if_neg d2, if_neg (show ¬ u < x + 1 by omega)]
      · rw [if_neg d, if_neg d]
    · rw [if_neg hm, if_neg hm]
theorem colC_next {m : R} {G : Img} {c : Nat} {x y : Int} (h : hasR m x y = true) : putF m (colC m G c x y) x y (mixC (c + 1) (G x y) noP) = colC m G c x (y + 1) := by
  funext u v
  unfold putF colC
  by_cases e : u = x ∧ v = y
  · obtain ⟨rfl, rfl⟩ := e
    rw [if_pos ⟨h, rfl, rfl⟩, if_pos h, if_neg (by omega), if_pos rfl, if_pos (by omega)]
  · rw [if_neg (fun k => e ⟨k.2.1, k.2.2⟩)]
    by_cases hm : hasR m u v = true
    · rw [if_pos hm, if_pos hm]
      by_cases d : u = x
      · rw [if_pos d, if_pos d]
        by_cases d2 : v < y
        · rw [if_pos d2, if_pos (show v < y + 1 by omega)]
        · rw [if_neg d2, if_neg (show ¬ v < y + 1 by omega)]
      · rw [if_neg d, if_neg d]
    · rw [if_neg hm, if_neg hm]

/-! The queue: from a head on, where values stand and what they are. -/
structure QInv (f : Nat → Int) (k i : Nat) (q : Nat → Nat × Int) (h n : Nat) : Prop where
  le : h ≤ n
  few : n ≤ i
  item : ∀ j, h ≤ j → j < n → k ≤ (q j).1 ∧ (q j).1 < i ∧ (q j).2 = f (q j).1
  dec : ∀ a b, h ≤ a → a < b → b < n → (q a).1 < (q b).1 ∧ (q b).2 < (q a).2
  cov : ∀ t, k ≤ t → t < i → ∃ j, h ≤ j ∧ j < n ∧ t ≤ (q j).1 ∧ f t ≤ (q j).2
theorem qinv_start (f : Nat → Int) (q : Nat → Nat × Int) : QInv f 0 0 q 0 0 :=
  ⟨Nat.le_refl _, Nat.le_refl _, fun j _ h => absurd h (by omega), fun a b _ _ h => absurd h (by omega), fun t _ h => absurd h (by omega)⟩
def putQ (q : Nat → Nat × Int) (n i : Nat) (v : Int) : Nat → Nat × Int := fun j => if j = n then (i, v) else q j
theorem putQ_at (q : Nat → Nat × Int) (n i : Nat) (v : Int) : putQ q n i v n = (i, v) := by simp [putQ]
theorem putQ_ne {q : Nat → Nat × Int} {n i j : Nat} {v : Int} (h : j ≠ n) : putQ q n i v j = q j := by simp [putQ, h]
theorem QInv.push {f : Nat → Int} {k i : Nat} {q : Nat → Nat × Int} {h n : Nat} (I : QInv f k i q h n) {n' : Nat} (h1 : h ≤ n') (h2 : n' ≤ n) (h3 : ∀ j, n' ≤ j → j < n → (q j).2 ≤ f i) (h4 : n' = h ∨ f i < (q (n' - 1)).2) (hk : k ≤ i) : QInv f k (i + 1) (putQ q n' i (f i)) h (n' + 1) := by
  have hfew := I.few
  refine ⟨by omega, by omega, fun j hj hn => ?_, fun a b ha hab hb => ?_, fun t hk1 hk2 => ?_⟩
  · by_cases e : j = n'
    · subst e; rw [putQ_at]; exact ⟨hk, by simp only; omega, rfl⟩
    · rw [putQ_ne e]
      have := I.item j hj (by omega)
      exact ⟨this.1, by omega, this.2.2⟩
  · by_cases e : b = n'
    · subst e
      rw [putQ_at, putQ_ne (by omega)]
      have ia := I.item a ha (by omega)
      refine ⟨ia.2.1, ?_⟩
      rcases h4 with h4 | h4
      · omega
      · by_cases ea : a = b - 1
        · rw [ea]; exact h4
        · have := (I.dec a (b - 1) ha (by omega) (by omega)).2
          simp only
          omega
    · rw [putQ_ne e, putQ_ne (by omega)]
      exact I.dec a b ha hab (by omega)
  · by_cases e : t = i
    · subst e
      exact ⟨n', h1, by omega, by rw [putQ_at]; exact Nat.le_refl _, by rw [putQ_at]; exact Int.le_refl _⟩
    · obtain ⟨j, hj1, hj2, hj3, hj4⟩ := I.cov t hk1 (by omega)
      by_cases ej : j < n'
      · exact ⟨j, hj1, by omega, by rw [putQ_ne (by omega)]; exact hj3, by rw [putQ_ne (by omega)]; exact hj4⟩
      · have := h3 j (by omega) hj2
        exact ⟨n', h1, by omega, by rw [putQ_at]; simp only; omega, by rw [putQ_at]; simp only; omega⟩
theorem QInv.leave {f : Nat → Int} {k i : Nat} {q : Nat → Nat × Int} {h n : Nat} (I : QInv f k i q h n) {k' h' : Nat} (hk : k ≤ k') (h1 : h ≤ h') (h2 : h' ≤ n) (h3 : ∀ j, h ≤ j → j < h' → (q j).1 < k') (h4 : h' = n ∨ k' ≤ (q h').1) : QInv f k' i q h' n := by
  refine ⟨h2, I.few, fun j hj hn => ?_, fun a b ha hab hb => I.dec a b (by omega) hab hb, fun t hk1 hk2 => ?_⟩
  · have hi := I.item j (by omega) hn
    refine ⟨?_, hi.2⟩
    rcases h4 with h4 | h4
    · omega
    · by_cases e : j = h'
      · rw [e]; exact h4
      · have := (I.dec h' j h1 (by omega) hn).1
        omega
  · obtain ⟨j, hj1, hj2, hj3, hj4⟩ := I.cov t (by omega) hk2
    refine ⟨j, ?_, hj2, hj3, hj4⟩
    rcases Nat.lt_or_ge j h' with hlt | hge
    · have := h3 j hj1 hlt
      omega
    · exact hge
/-- The first is the greatest. -/
theorem QInv.first {f : Nat → Int} {k i : Nat} {q : Nat → Nat × Int} {h n : Nat} (I : QInv f k i q h n) (hf : ∀ t, 0 ≤ f t) (hk : k < i) : h < n ∧ (q h).2 = mxW (fun t => f t.toNat) k (i - k) := by
  obtain ⟨j0, h0, h1, -, -⟩ := I.cov k (Nat.le_refl _) hk
  refine ⟨by omega, ?_⟩
  obtain ⟨i1, i2, i3⟩ := I.item h (Nat.le_refl _) (by omega)
  refine (mxW_of (fun _ => hf _) (fun t ht => ?_) ((q h).1 - k) (by omega) ?_).symm
  · obtain ⟨j, hj1, hj2, hj3, hj4⟩ := I.cov (k + t) (by omega) (by omega)
    have e : ((k : Int) + (t : Int)).toNat = k + t := by omega
    show f ((k : Int) + (t : Int)).toNat ≤ _
    rw [e]
    by_cases ej : j = h
    · rw [← ej]; exact hj4
    · have := (I.dec h j (Nat.le_refl _) (by omega) hj2).2
      omega
  · have e : ((k : Int) + (((q h).1 - k : Nat) : Int)).toNat = (q h).1 := by omega
    show (q h).2 = f ((k : Int) + (((q h).1 - k : Nat) : Int)).toNat
    rw [e]; exact i3
end Go.Proofs.YtklcmlbkhjcaiaaDoor

/- Mixing in plain Lean: what the program's operators and modes compute, and what follows. No program in sight. -/


namespace Go.Proofs.YtklcmlbkhjcaiaaDoor
set_option linter.unusedVariables false

/-- Each of the four is a byte. -/
def P4.Bytes (p : P4) : Prop := (0 ≤ p.r ∧ p.r ≤ 255) ∧ (0 ≤ p.g ∧ p.g ≤ 255) ∧ (0 ≤ p.b ∧ p.b ≤ 255) ∧ (0 ≤ p.a ∧ p.a ≤ 255)
def P4.Right (p : P4) : Prop := p.r ≤ p.a ∧ p.g ≤ p.a ∧ p.b ≤ p.a

/-- A value by an operator. -/
def compV (op a b t u : Int) : Int :=
  if op = 0 then a + mulT b (255 - t) else if op = 1 then mulT a u else if op = 2 then mulT a (255 - u) else if op = 3 then mulT a u + mulT b (255 - t) else if op = 4 then mulT a (255 - u) + mulT b (255 - t) else 0
def compP (op : Int) (p q : P4) : P4 := ⟨cutT (compV op p.r q.r p.a q.a), cutT (compV op p.g q.g p.a q.a), cutT (compV op p.b q.b p.a q.a), cutT (compV op p.a q.a p.a q.a)⟩
def besideV (a b t u : Int) : Int := mulT a (255 - u) + mulT b (255 - t)
/-- A colour by a mode. -/
def colV (m a b t u : Int) : Int :=
  if m = 1 then mulT a b + besideV a b t u else if m = 2 then a + b - mulT a b else if m = 3 then min (mulT a u) (mulT b t) + besideV a b t u else if m = 4 then max (mulT a u) (mulT b t) + besideV a b t u
  else if m = 5 then a + b - 2 * min (mulT a u) (mulT b t) else a + b
def alphaV (m t u : Int) : Int := cutT (if m = 6 then t + u else t + u - mulT t u)
def blendP (m : Int) (p q : P4) : P4 :=
  if m = 0 then compP 0 p q else
    ⟨min (cutT (colV m p.r q.r p.a q.a)) (alphaV m p.a q.a), min (cutT (colV m p.g q.g p.a q.a)) (alphaV m p.a q.a), min (cutT (colV m p.b q.b p.a q.a)) (alphaV m p.a q.a), alphaV m p.a q.a⟩
def scaleP (p : P4) (k : Int) : P4 := ⟨mulT p.r k, mulT p.g k, mulT p.b k, mulT p.a k⟩
def ontoP (m k : Int) (p q : P4) : P4 := blendP m (scaleP p k) q

theorem sub_bd (t : Int) (h : 0 ≤ t ∧ t ≤ 255) : 0 ≤ 255 - t ∧ 255 - t ≤ 255 := by omega
theorem compV_bd (op a b t u : Int) (ha : 0 ≤ a ∧ a ≤ 255) (hb : 0 ≤ b ∧ b ≤ 255) (ht : 0 ≤ t ∧ t ≤ 255) (hu : 0 ≤ u ∧ u ≤ 255) : 0 ≤ compV op a b t u ∧ compV op a b t u ≤ 510 := by
  have h1 := mulT_bd b (255 - t) hb.1 hb.2 (sub_bd t ht).1 (sub_bd t ht).2
  have h2 := mulT_bd a u ha.1 ha.2 hu.1 hu.2
  have h3 := mulT_bd a (255 - u) ha.1 ha.2 (sub_bd u hu).1 (sub_bd u hu).2
  unfold compV
  repeat' split
  all_goals omega
theorem colV_bd (m a b t u : Int) (ha : 0 ≤ a ∧ a ≤ 255) (hb : 0 ≤ b ∧ b ≤ 255) (ht : 0 ≤ t ∧ t ≤ 255) (hu : 0 ≤ u ∧ u ≤ 255) : -1000 ≤ colV m a b t u ∧ colV m a b t u ≤ 1000 := by
  have h1 := mulT_bd b (255 - t) hb.1 hb.2 (sub_bd t ht).1 (sub_bd t ht).2
  have h2 := mulT_bd a u ha.1 ha.2 hu.1 hu.2
  have h3 := mulT_bd a (255 - u) ha.1 ha.2 (sub_bd u hu).1 (sub_bd u hu).2
  have h4 := mulT_bd b t hb.1 hb.2 ht.1 ht.2
  have h5 := mulT_bd a b ha.1 ha.2 hb.1 hb.2
  unfold colV besideV
  repeat' split
  all_goals omega
theorem alphaV_bd (m t u : Int) : 0 ≤ alphaV m t u ∧ alphaV m t u ≤ 255 := cutT_bd _
theorem cutT_mono (a b : Int) (h : a ≤ b) : cutT a ≤ cutT b := by unfold cutT; omega

theorem compV_mono (op a b t u : Int) (ha : a ≤ t) (hb : b ≤ u) (ht : 0 ≤ t ∧ t ≤ 255) (hu : 0 ≤ u ∧ u ≤ 255) : compV op a b t u ≤ compV op t u t u := by
  have h1 := mulT_mono b u (255 - t) hb (sub_bd t ht).1
  have h2 := mulT_mono a t u ha hu.1
  have h3 := mulT_mono a t (255 - u) ha (sub_bd u hu).1
  unfold compV
  repeat' split
  all_goals omega
theorem compP_bytes (op : Int) (p q : P4) : (compP op p q).Bytes := ⟨cutT_bd _, cutT_bd _, cutT_bd _, cutT_bd _⟩
theorem compP_right (op : Int) (p q : P4) (hp : p.Bytes) (hq : q.Bytes) (rp : p.Right) (rq : q.Right) : (compP op p q).Right :=
  ⟨cutT_mono _ _ (compV_mono op _ _ _ _ rp.1 rq.1 hp.2.2.2 hq.2.2.2), cutT_mono _ _ (compV_mono op _ _ _ _ rp.2.1 rq.2.1 hp.2.2.2 hq.2.2.2), cutT_mono _ _ (compV_mono op _ _ _ _ rp.2.2 rq.2.2 hp.2.2.2 hq.2.2.2)⟩
theorem blendP_bytes (m : Int) (p q : P4) : (blendP m p q).Bytes := by
  unfold blendP
  split
  · exact compP_bytes _ _ _
  · have h := alphaV_bd m p.a q.a
    have h1 := cutT_bd (colV m p.r q.r p.a q.a)
    have h2 := cutT_bd (colV m p.g q.g p.a q.a)
    have h3 := cutT_bd (colV m p.b q.b p.a q.a)
    exact ⟨by simp only; omega, by simp only; omega, by simp only; omega, h⟩
theorem blendP_right (m : Int) (p q : P4) (hp : p.Bytes) (hq : q.Bytes) (rp : p.Right) (rq : q.Right) : (blendP m p q).Right := by
  unfold blendP
  split
  · exact compP_right _ _ _ hp hq rp rq
  · exact ⟨by simp only; omega, by simp only; omega, by simp only; omega⟩
theorem scaleP_bytes (p : P4) (k : Int) (hp : p.Bytes) (hk : 0 ≤ k ∧ k ≤ 255) : (scaleP p k).Bytes :=
  ⟨mulT_bd _ _ hp.1.1 hp.1.2 hk.1 hk.2, mulT_bd _ _ hp.2.1.1 hp.2.1.2 hk.1 hk.2, mulT_bd _ _ hp.2.2.1.1 hp.2.2.1.2 hk.1 hk.2, mulT_bd _ _ hp.2.2.2.1 hp.2.2.2.2 hk.1 hk.2⟩
theorem scaleP_right (p : P4) (k : Int) (hk : 0 ≤ k) (rp : p.Right) : (scaleP p k).Right := ⟨mulT_mono _ _ _ rp.1 hk, mulT_mono _ _ _ rp.2.1 hk, mulT_mono _ _ _ rp.2.2 hk⟩

theorem mulT_0l (a : Int) : mulT 0 a = 0 := by rw [mulT_comm, mulT_0]
theorem mulT_255l (a : Int) : mulT 255 a = a := by rw [mulT_comm, mulT_255]

/-- Nothing on top, or beneath. -/
theorem comp_none_top (op a t : Int) (h : op = 0 ∨ op = 3 ∨ op = 4) (ha : 0 ≤ a ∧ a ≤ 255) : cutT (compV op 0 a 0 t) = a := by
  have e : compV op 0 a 0 t = a := by
    unfold compV
    rcases h with rfl | rfl | rfl <;> simp [mulT_0l, mulT_255]
  rw [e]; exact cutT_in a ha.1 ha.2
theorem comp_none_gone (op a t : Int) (h : op = 1 ∨ op = 2 ∨ op = 5) : cutT (compV op 0 a 0 t) = 0 := by
  have e : compV op 0 a 0 t = 0 := by
    unfold compV
    rcases h with rfl | rfl | rfl <;> simp [mulT_0l]
  rw [e]; decide
theorem comp_none_under (op a t : Int) (h : op = 0 ∨ op = 4) (ha : 0 ≤ a ∧ a ≤ 255) : cutT (compV op a 0 t 0) = a := by
  have e : compV op a 0 t 0 = a := by
    unfold compV
    rcases h with rfl | rfl <;> simp [mulT_0l, mulT_255]
  rw [e]; exact cutT_in a ha.1 ha.2
theorem col_none_top (m b u : Int) : colV m 0 b 0 u = b := by
  unfold colV besideV
  simp only [mulT_0l, mulT_0, Int.sub_zero, mulT_255]
  repeat' split
  all_goals omega
theorem col_none_under (m a t : Int) : colV m a 0 t 0 = a := by
  unfold colV besideV
  simp only [mulT_0l, mulT_0, Int.sub_zero, mulT_255]
  repeat' split
  all_goals omega
theorem alpha_none_top (m u : Int) (h : 0 ≤ u ∧ u ≤ 255) : alphaV m 0 u = u := by
  unfold alphaV
  rw [mulT_0l]
  split <;> (rw [show (0 : Int) + u = u from by omega]; try rw [Int.sub_zero]) <;> exact cutT_in u h.1 h.2
theorem alpha_none_under (m t : Int) (h : 0 ≤ t ∧ t ≤ 255) : alphaV m t 0 = t := by
  unfold alphaV
  rw [mulT_0]
  split <;> (rw [show t + (0 : Int) = t from by omega]; try rw [Int.sub_zero]) <;> exact cutT_in t h.1 h.2
theorem blend_none_top (m : Int) (p : P4) (hp : p.Bytes) (rp : p.Right) : blendP m ⟨0, 0, 0, 0⟩ p = p := by
  obtain ⟨r, g, b, a⟩ := p
  obtain ⟨h1, h2, h3, h4⟩ := hp
  obtain ⟨k1, k2, k3⟩ := rp
  simp only at *
  unfold blendP
  split
  · simp only [compP, comp_none_top 0 _ _ (.inl rfl) h1, comp_none_top 0 _ _ (.inl rfl) h2, comp_none_top 0 _ _ (.inl rfl) h3, comp_none_top 0 _ _ (.inl rfl) h4]
  · simp only [col_none_top, alpha_none_top m a h4, cutT_in r h1.1 h1.2, cutT_in g h2.1 h2.2, cutT_in b h3.1 h3.2, Int.min_eq_left k1, Int.min_eq_left k2, Int.min_eq_left k3]
theorem blend_none_under (m : Int) (p : P4) (hp : p.Bytes) (rp : p.Right) : blendP m p ⟨0, 0, 0, 0⟩ = p := by
  obtain ⟨r, g, b, a⟩ := p
  obtain ⟨h1, h2, h3, h4⟩ := hp
  obtain ⟨k1, k2, k3⟩ := rp
  simp only at *
  unfold blendP
  split
  · simp only [compP, comp_none_under 0 _ _ (.inl rfl) h1, comp_none_under 0 _ _ (.inl rfl) h2, comp_none_under 0 _ _ (.inl rfl) h3, comp_none_under 0 _ _ (.inl rfl) h4]
  · simp only [col_none_under, alpha_none_under m a h4, cutT_in r h1.1 h1.2, cutT_in g h2.1 h2.2, cutT_in b h3.1 h3.2, Int.min_eq_left k1, Int.min_eq_left k2, Int.min_eq_left k3]
theorem compP_none_top (op : Int) (p : P4) (h : op = 0 ∨ op = 3 ∨ op = 4) (hp : p.Bytes) : compP op ⟨0, 0, 0, 0⟩ p = p := by
  unfold compP
  simp only [comp_none_top op _ _ h hp.1, comp_none_top op _ _ h hp.2.1, comp_none_top op _ _ h hp.2.2.1, comp_none_top op _ _ h hp.2.2.2]
theorem compP_none_gone (op : Int) (p : P4) (h : op = 1 ∨ op = 2 ∨ op = 5) : compP op ⟨0, 0, 0, 0⟩ p = ⟨0, 0, 0, 0⟩ := by
  unfold compP
  simp only [comp_none_gone op _ _ h]
theorem compP_none_under (op : Int) (p : P4) (h : op = 0 ∨ op = 4) (hp : p.Bytes) : compP op p ⟨0, 0, 0, 0⟩ = p := by
  unfold compP
  simp only [comp_none_under op _ _ h hp.1, comp_none_under op _ _ h hp.2.1, comp_none_under op _ _ h hp.2.2.1, comp_none_under op _ _ h hp.2.2.2]
theorem compP_clear (p q : P4) : compP 5 p q = ⟨0, 0, 0, 0⟩ := by
  have h : cutT 0 = 0 := by decide
  simp [compP, compV, h]

/-- Which is on top makes no difference. -/
theorem col_turned (m a b t u : Int) : colV m a b t u = colV m b a u t := by
  unfold colV besideV
  rw [mulT_comm b a]
  repeat' split
  all_goals omega
theorem alpha_turned (m t u : Int) : alphaV m t u = alphaV m u t := by
  unfold alphaV
  rw [mulT_comm u t, Int.add_comm u t]
theorem blend_turned (m : Int) (p q : P4) (hm : m ≠ 0) : blendP m p q = blendP m q p := by
  unfold blendP
  rw [if_neg hm, if_neg hm, col_turned m p.r, col_turned m p.g, col_turned m p.b, alpha_turned m p.a]
theorem xor_turned (p q : P4) : compP 4 p q = compP 4 q p := by
  have h : ∀ a b t u : Int, compV 4 a b t u = compV 4 b a u t := fun a b t u => by
    simp only [compV]
    simp
    omega
  unfold compP
  rw [h p.r, h p.g, h p.b, h p.a]

/-- Full alpha. -/
theorem over_full (p q : P4) (hp : p.Bytes) (h : p.a = 255) : compP 0 p q = p := by
  obtain ⟨r, g, b, a⟩ := p
  obtain ⟨h1, h2, h3, h4⟩ := hp
  simp only at *
  subst h
  have e : ∀ x y u : Int, (0 ≤ x ∧ x ≤ 255) → cutT (compV 0 x y 255 u) = x := fun x y u hx => by
    have : compV 0 x y 255 u = x := by simp [compV, mulT_0]
    rw [this]; exact cutT_in x hx.1 hx.2
  simp only [compP, e _ _ _ h1, e _ _ _ h2, e _ _ _ h3, e _ _ _ h4]
theorem blend_full_under (m : Int) (p q : P4) (hp : p.Bytes) (hq : q.Bytes) (h : q.a = 255) : (blendP m p q).a = 255 := by
  have h4 := hp.2.2.2
  unfold blendP
  split
  · simp only [compP, h, compV, if_true, mulT_255l]
    unfold cutT; omega
  · simp only [alphaV, h, mulT_255]
    split <;> (unfold cutT; omega)
theorem blend_full_top (m : Int) (p q : P4) (hp : p.Bytes) (hq : q.Bytes) (h : p.a = 255) : (blendP m p q).a = 255 := by
  have h4 := hq.2.2.2
  unfold blendP
  split
  · simp only [compP, h, compV, if_true]
    simp only [Int.sub_self, mulT_0]
    decide
  · simp only [alphaV, h, mulT_255l]
    split <;> (unfold cutT; omega)
end Go.Proofs.YtklcmlbkhjcaiaaDoor

/- Colours by a matrix in plain Lean: what the program's functions of layer 7 compute, and what follows. No program in sight. -/

namespace Go.Proofs.YtklcmlbkhjcaiaaDoor
set_option linter.unusedVariables false

/-- A row's sum, for the row that begins at place o of the matrix. -/
def rowV (m : Nat → Int) (o : Nat) (r g b a : Int) : Int := cutT ((255 * m (o + 4) + 128 + m o * r + m (o + 1) * g + m (o + 2) * b + m (o + 3) * a) / 256)
/-- The four values that a matrix makes of plain ones. -/
def tint0 (m : Nat → Int) (r g b a : Int) : Int := mulT (rowV m 0 (divT r a) (divT g a) (divT b a) a) (rowV m 15 (divT r a) (divT g a) (divT b a) a)
def tint1 (m : Nat → Int) (r g b a : Int) : Int := mulT (rowV m 5 (divT r a) (divT g a) (divT b a) a) (rowV m 15 (divT r a) (divT g a) (divT b a) a)
def tint2 (m : Nat → Int) (r g b a : Int) : Int := mulT (rowV m 10 (divT r a) (divT g a) (divT b a) a) (rowV m 15 (divT r a) (divT g a) (divT b a) a)
def tint3 (m : Nat → Int) (r g b a : Int) : Int := rowV m 15 (divT r a) (divT g a) (divT b a) a
theorem rowV_bd (m : Nat → Int) (o : Nat) (r g b a : Int) : 0 ≤ rowV m o r g b a ∧ rowV m o r g b a ≤ 255 := cutT_bd _
theorem entry_bd (m c : Int) (hm : -32768 ≤ m ∧ m ≤ 32767) (hc : 0 ≤ c ∧ c ≤ 255) : -8355840 ≤ m * c ∧ m * c ≤ 8355840 := by
  have h1 : m * c ≤ 32767 * c := Int.mul_le_mul_of_nonneg_right hm.2 hc.1
  have h2 : -32768 * c ≤ m * c := Int.mul_le_mul_of_nonneg_right hm.1 hc.1
  omega
theorem getD_get (l : List Int) (i : Nat) (h : i < l.length) : l.getD i 0 = l[i] := by simp [List.getD, List.getElem?_eq_getElem h]
/-- The place of the numbers of a matrix: the first 'len' of a list, each within bounds, and 20 of them. -/
def matB (zs : List Int) (len : Nat) : Bool := decide (len = 20) && (zs.take len).all fun n => decide (-32768 ≤ n) && decide (n ≤ 32767)
theorem matB_iff (zs : List Int) (len : Nat) (hz : len ≤ zs.length) : matB zs len = true ↔ len = 20 ∧ ∀ i, i < len → -32768 ≤ zs.getD i 0 ∧ zs.getD i 0 ≤ 32767 := by
  simp only [matB, Bool.and_eq_true, decide_eq_true_eq, List.all_eq_true]
  constructor
  · rintro ⟨h, k⟩
    refine ⟨h, fun i hi => k _ ?_⟩
    rw [getD_get _ _ (by omega), List.mem_take_iff_getElem]
    exact ⟨i, by omega, rfl⟩
  · rintro ⟨h, k⟩
    refine ⟨h, fun n hn => ?_⟩
    rw [List.mem_take_iff_getElem] at hn
    obtain ⟨i, hi, rfl⟩ := hn
    have := k i (by omega)
    rwa [getD_get _ _ (by omega)] at this
/-- Rows hang on their own numbers alone. -/
theorem rowV_congr (m m' : Nat → Int) (o : Nat) (r g b a : Int) (h : ∀ j, j < 5 → m (o + j) = m' (o + j)) : rowV m o r g b a = rowV m' o r g b a := by
  have h0 := h 0 (by omega)
  have h1 := h 1 (by omega)
  have h2 := h 2 (by omega)
  have h3 := h 3 (by omega)
  have h4 := h 4 (by omega)
  simp only [Nat.add_zero] at h0
  unfold rowV
  rw [h0, h1, h2, h3, h4]
end Go.Proofs.YtklcmlbkhjcaiaaDoor
