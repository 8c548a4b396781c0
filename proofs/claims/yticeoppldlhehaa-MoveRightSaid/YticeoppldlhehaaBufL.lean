/- Pixels, and buffers as what stands at each point, in plain Lean. No program in sight. -/
import Derived.Test.YticeoppldlhehaaRectL
namespace Go.Proofs.Yticeoppldlhehaa
set_option linter.unusedVariables false

structure P4 where
  r : Int
  g : Int
  b : Int
  a : Int

def noP : P4 := ⟨0, 0, 0, 0⟩
/-- Each of a pixel's four values is a byte. -/
def okP (p : P4) : Prop := (0 ≤ p.r ∧ p.r ≤ 255) ∧ (0 ≤ p.g ∧ p.g ≤ 255) ∧ (0 ≤ p.b ∧ p.b ≤ 255) ∧ (0 ≤ p.a ∧ p.a ≤ 255)
theorem okP_no : okP noP := by simp [okP, noP]
def eqP (p q : P4) : Bool := p.r == q.r && (p.g == q.g && (p.b == q.b && p.a == q.a))
theorem eqP_iff (p q : P4) : eqP p q = true ↔ p = q := by
  obtain ⟨p0, p1, p2, p3⟩ := p
  obtain ⟨q0, q1, q2, q3⟩ := q
  simp [eqP]
theorem eqP_self (p : P4) : eqP p p = true := (eqP_iff p p).2 rfl
/-- One of a pixel's four values. -/
def chan (p : P4) (c : Nat) : Int := if c = 0 then p.r else if c = 1 then p.g else if c = 2 then p.b else p.a
theorem chan_bd {p : P4} (h : okP p) (c : Nat) : 0 ≤ chan p c ∧ chan p c ≤ 255 := by
  obtain ⟨h0, h1, h2, h3⟩ := h
  unfold chan
  split
  · exact h0
  split
  · exact h1
  split
  · exact h2
  · exact h3
theorem chan_no (c : Nat) : chan noP c = 0 := by unfold chan noP; simp

/-- What stands at each point of the plane. -/
abbrev Img := Int → Int → P4

/-- A point's place in a rectangle, row by row. -/
def idxR (r : R) (x y : Int) : Int := (y - r.y0) * (r.x1 - r.x0) + x - r.x0
/-- The point of a place. -/
def ptX (r : R) (i : Nat) : Int := r.x0 + (i : Int) % (r.x1 - r.x0)
def ptY (r : R) (i : Nat) : Int := r.y0 + (i : Int) / (r.x1 - r.x0)

theorem hasR_zero (x y : Int) : hasR zeroR x y = false := by
  rw [Bool.eq_false_iff, ne_eq, hasR_iff]
  simp only [zeroR]
  omega
theorem hasR_empty {r : R} (h : emptyR r = true) (x y : Int) : hasR r x y = false := by
  have := (emptyR_iff r).1 h
  rw [Bool.eq_false_iff, ne_eq, hasR_iff]
  omega
theorem hasR_not_empty {r : R} {x y : Int} (h : hasR r x y = true) : emptyR r = false := by
  cases he : emptyR r
  · rfl
  · rw [hasR_empty he] at h; cases h

theorem idxR_bd {r : R} {x y : Int} (h : hasR r x y = true) : 0 ≤ (y - r.y0) * (r.x1 - r.x0) ∧ 0 ≤ idxR r x y ∧ idxR r x y < (r.x1 - r.x0) * (r.y1 - r.y0) := by
  have k := (hasR_iff r x y).1 h
  have h0 : 0 ≤ (y - r.y0) * (r.x1 - r.x0) := Int.mul_nonneg (by omega) (by omega)
  have h1 : (y - r.y0 + 1) * (r.x1 - r.x0) ≤ (r.y1 - r.y0) * (r.x1 - r.x0) := Int.mul_le_mul_of_nonneg_right (by omega) (by omega)
  rw [Int.add_mul, Int.one_mul, Int.mul_comm (r.y1 - r.y0)] at h1
  unfold idxR
  refine ⟨h0, ?_, ?_⟩ <;> omega
theorem ptX_idx {r : R} {x y : Int} (h : hasR r x y = true) : ptX r (idxR r x y).toNat = x := by
  have k := (hasR_iff r x y).1 h
  have hb := (idxR_bd h).2.1
  unfold ptX
  rw [Int.toNat_of_nonneg hb, show idxR r x y = (x - r.x0) + (y - r.y0) * (r.x1 - r.x0) from by unfold idxR; omega, Int.add_mul_emod_self_right, Int.emod_eq_of_lt (by omega) (by omega)]
  omega
theorem ptY_idx {r : R} {x y : Int} (h : hasR r x y = true) : ptY r (idxR r x y).toNat = y := by
  have k := (hasR_iff r x y).1 h
  have hb := (idxR_bd h).2.1
  unfold ptY
  rw [Int.toNat_of_nonneg hb, show idxR r x y = (x - r.x0) + (y - r.y0) * (r.x1 - r.x0) from by unfold idxR; omega, Int.add_mul_ediv_right _ _ (by omega), Int.ediv_eq_zero_of_lt (by omega) (by omega)]
  omega
theorem pt_has {r : R} {i : Nat} (he : emptyR r = false) (h : (i : Int) < (r.x1 - r.x0) * (r.y1 - r.y0)) : hasR r (ptX r i) (ptY r i) = true := by
  have k := (emptyR_not r).1 he
  rw [hasR_iff]
  unfold ptX ptY
  have h1 := Int.emod_nonneg (i : Int) (b := r.x1 - r.x0) (by omega)
  have h2 := Int.emod_lt_of_pos (i : Int) (b := r.x1 - r.x0) (by omega)
  have h3 : 0 ≤ (i : Int) / (r.x1 - r.x0) := Int.ediv_nonneg (by omega) (by omega)
  have h4 : (i : Int) / (r.x1 - r.x0) < r.y1 - r.y0 := Int.ediv_lt_of_lt_mul (by omega) (by rw [Int.mul_comm]; exact h)
  omega
theorem idx_pt {r : R} {i : Nat} (he : emptyR r = false) : idxR r (ptX r i) (ptY r i) = i := by
  have k := (emptyR_not r).1 he
  unfold idxR ptX ptY
  have := Int.mul_ediv_add_emod (i : Int) (r.x1 - r.x0)
  rw [Int.mul_comm] at this
  rw [show r.y0 + (i : Int) / (r.x1 - r.x0) - r.y0 = (i : Int) / (r.x1 - r.x0) from by omega]
  omega
theorem idxR_inj {r : R} {x y u v : Int} (h : hasR r x y = true) (k : hasR r u v = true) (e : idxR r x y = idxR r u v) : x = u ∧ y = v :=
  ⟨by rw [← ptX_idx h, ← ptX_idx k, e], by rw [← ptY_idx h, ← ptY_idx k, e]⟩

/-- A rectangle that lies in the plane and, if it has no points, is that of noughts. -/
structure GoodR (r : R) : Prop where
  near : rightR r = true
  zero : emptyR r = true → r = zeroR
theorem GoodR.bd {r : R} (h : GoodR r) : (-4398046511104 ≤ r.x0 ∧ r.x0 ≤ 4398046511104) ∧ (-4398046511104 ≤ r.y0 ∧ r.y0 ≤ 4398046511104) ∧ (-4398046511104 ≤ r.x1 ∧ r.x1 ≤ 4398046511104) ∧ (-4398046511104 ≤ r.y1 ∧ r.y1 ≤ 4398046511104) := (rightR_iff r).1 h.near
theorem GoodR.le {r : R} (h : GoodR r) : r.x0 ≤ r.x1 ∧ r.y0 ≤ r.y1 := by
  cases he : emptyR r
  · have := (emptyR_not r).1 he; omega
  · rw [h.zero he]; simp [zeroR]
theorem goodR_zero : GoodR zeroR := ⟨by decide, fun _ => rfl⟩
/-- How many points a rectangle has. -/
def cntR (r : R) : Nat := ((r.x1 - r.x0) * (r.y1 - r.y0)).toNat
theorem GoodR.cnt {r : R} (h : GoodR r) : (cntR r : Int) = (r.x1 - r.x0) * (r.y1 - r.y0) := by
  unfold cntR
  have := h.le
  exact Int.toNat_of_nonneg (Int.mul_nonneg (by omega) (by omega))
theorem GoodR.area {r : R} (h : GoodR r) (hl : areaR r < 2305843009213693952) : areaR r = cntR r := by
  rw [h.cnt]
  cases he : emptyR r
  · rw [areaR_eq r he] at hl ⊢; omega
  · rw [areaR_empty r he, h.zero he]; simp [zeroR]
theorem GoodR.area' {r : R} (h : GoodR r) (hl : cntR r < 2305843009213693952) : areaR r = cntR r := by
  have e := h.cnt
  cases he : emptyR r
  · rw [areaR_eq r he]; omega
  · rw [areaR_empty r he, e, h.zero he]; simp [zeroR]
theorem GoodR.idx {r : R} (h : GoodR r) {x y : Int} (k : hasR r x y = true) : (idxR r x y).toNat < cntR r := by
  have := idxR_bd k
  have := h.cnt
  omega
theorem GoodR.pt {r : R} (h : GoodR r) {i : Nat} (k : i < cntR r) : hasR r (ptX r i) (ptY r i) = true := by
  have e := h.cnt
  cases he : emptyR r
  · exact pt_has he (by omega)
  · rw [h.zero he] at k; have : cntR zeroR = 0 := by decide
    omega
theorem cnt_zero : cntR zeroR = 0 := by decide
theorem GoodR.cnt_empty {r : R} (h : GoodR r) (he : emptyR r = true) : cntR r = 0 := by rw [h.zero he]; exact cnt_zero

/-- An image that is nothing outside of a rectangle, and whose values are bytes. -/
structure Fits (r : R) (F : Img) : Prop where
  ok : ∀ x y, okP (F x y)
  out : ∀ x y, hasR r x y = false → F x y = noP
/-- What an image shows in a rectangle. -/
def cutF (r : R) (F : Img) : Img := fun x y => if hasR r x y = true then F x y else noP
theorem cutF_in {r : R} {F : Img} {x y : Int} (h : hasR r x y = true) : cutF r F x y = F x y := by simp [cutF, h]
theorem cutF_out {r : R} {F : Img} {x y : Int} (h : hasR r x y = false) : cutF r F x y = noP := by simp [cutF, h]
theorem Fits.cut {r s : R} {F : Img} (h : ∀ x y, hasR r x y = true → okP (F x y)) : Fits r (cutF r F) :=
  ⟨fun x y => by
    unfold cutF
    split
    · exact h x y ‹_›
    · exact okP_no, fun x y hn => cutF_out hn⟩
theorem Fits.cut_eq {r : R} {F : Img} (h : Fits r F) : cutF r F = F := by
  funext x y
  unfold cutF
  split
  · rfl
  · rename_i hn; exact (h.out x y (by simpa using hn)).symm
def noF : Img := fun _ _ => noP
theorem fits_no (r : R) : Fits r noF := ⟨fun _ _ => okP_no, fun _ _ _ => rfl⟩
/-- An image with one point turned. -/
def putF (r : R) (F : Img) (x y : Int) (p : P4) : Img := fun u v => if hasR r x y = true ∧ u = x ∧ v = y then p else F u v
theorem Fits.put {r : R} {F : Img} (h : Fits r F) {x y : Int} {p : P4} (hp : okP p) : Fits r (putF r F x y p) :=
  ⟨fun u v => by
    unfold putF
    split
    · exact hp
    · exact h.ok u v, fun u v hn => by
    unfold putF
    rw [if_neg]
    · exact h.out u v hn
    · rintro ⟨h1, rfl, rfl⟩
      rw [h1] at hn; cases hn⟩
/-- The image of a row of pixels in a rectangle. -/
def imgOf (r : R) (f : Nat → P4) : Img := fun x y => if hasR r x y = true then f (idxR r x y).toNat else noP
theorem fits_imgOf {r : R} {f : Nat → P4} (h : GoodR r) (hf : ∀ i, i < cntR r → okP (f i)) : Fits r (imgOf r f) :=
  ⟨fun x y => by
    unfold imgOf
    split
    · exact hf _ (h.idx ‹_›)
    · exact okP_no, fun x y hn => by simp [imgOf, hn]⟩
theorem imgOf_pt {r : R} {f : Nat → P4} (h : GoodR r) {i : Nat} (hi : i < cntR r) : imgOf r f (ptX r i) (ptY r i) = f i := by
  have hp := h.pt hi
  unfold imgOf
  rw [if_pos hp, idx_pt (hasR_not_empty hp)]
  simp

/-! Walked row by row. -/
theorem ptX_of {r : R} {x y : Int} {k : Nat} (h : hasR r x y = true) (hk : (k : Int) = idxR r x y) : ptX r k = x := by
  have := ptX_idx h
  rw [← hk] at this
  simpa using this
theorem ptY_of {r : R} {x y : Int} {k : Nat} (h : hasR r x y = true) (hk : (k : Int) = idxR r x y) : ptY r k = y := by
  have := ptY_idx h
  rw [← hk] at this
  simpa using this
theorem idx_next (r : R) (x y : Int) : idxR r (x + 1) y = idxR r x y + 1 := by unfold idxR; omega
theorem idx_row (r : R) (y : Int) : idxR r r.x1 y = idxR r r.x0 (y + 1) := by
  unfold idxR
  rw [show y + 1 - r.y0 = (y - r.y0) + 1 from by omega, Int.add_mul]
  omega
theorem idx_first (r : R) : idxR r r.x0 r.y0 = 0 := by unfold idxR; simp
theorem idx_last (r : R) : idxR r r.x0 r.y1 = (r.x1 - r.x0) * (r.y1 - r.y0) := by unfold idxR; rw [Int.mul_comm]; omega

/-! Filled, copied, windowed. -/
def fillF (r s : R) (p : P4) (F : Img) : Img := fun u v => if hasR r u v = true ∧ hasR s u v = true then p else F u v
def copyF (r s : R) (dx dy : Int) (F G : Img) : Img := fun u v => if hasR r u v = true ∧ hasR s u v = true then G (u - dx) (v - dy) else F u v
/-- Filled up to a point of a row. -/
def fillTo (m : R) (p : P4) (y x : Int) (F : Img) : Img := fun u v => if hasR m u v = true ∧ (v < y ∨ (v = y ∧ u < x)) then p else F u v
theorem good_some {r : R} (h : rightR r = true) : GoodR (someR r) := by
  unfold someR
  split
  · exact goodR_zero
  · exact ⟨h, fun he => absurd he (by assumption)⟩
theorem right_meet {a b : R} (ha : rightR a = true) (hb : rightR b = true) : rightR (meetR a b) = true := (rightR_iff _).2 (meetR_fits a b ha hb)
theorem good_meet {a b : R} (ha : rightR a = true) (hb : rightR b = true) : GoodR (meetR a b) := by
  refine ⟨right_meet ha hb, fun h => ?_⟩
  unfold meetR at h ⊢
  rw [emptyR_some] at h
  unfold someR
  rw [if_pos h]
theorem has_meet (a b : R) (x y : Int) : hasR (meetR a b) x y = (hasR a x y && hasR b x y) := by
  unfold meetR
  rw [hasR_some, Bool.eq_iff_iff, Bool.and_eq_true, hasR_iff, hasR_iff, hasR_iff]
  simp only [mxI_eq, mnI_eq]
  omega
theorem fillTo_first (m : R) (p : P4) (F : Img) : fillTo m p m.y0 m.x0 F = F := by
  funext u v
  unfold fillTo
  rw [if_neg]
  rintro ⟨h, k⟩
  have := (hasR_iff m u v).1 h
  omega
theorem fillTo_row (m : R) (p : P4) (y : Int) (F : Img) : fillTo m p y m.x1 F = fillTo m p (y + 1) m.x0 F := by
  funext u v
  unfold fillTo
  by_cases h : hasR m u v = true
  · have k := (hasR_iff m u v).1 h
    simp only [h, true_and]
    by_cases c : v < y ∨ (v = y ∧ u < m.x1)
    · rw [if_pos c, if_pos (by omega)]
    · rw [if_neg c, if_neg (by omega)]
  · simp [h]
theorem fillTo_next {r m : R} {p : P4} {y x : Int} {F : Img} (h : hasR m x y = true) (hr : hasR r x y = true) : putF r (fillTo m p y x F) x y p = fillTo m p y (x + 1) F := by
  funext u v
  unfold putF fillTo
  by_cases c : u = x ∧ v = y
  · obtain ⟨rfl, rfl⟩ := c
    rw [if_pos ⟨hr, rfl, rfl⟩, if_pos ⟨h, by omega⟩]
  · rw [if_neg (fun k => c ⟨k.2.1, k.2.2⟩)]
    by_cases d : hasR m u v = true ∧ (v < y ∨ (v = y ∧ u < x))
    · rw [if_pos d, if_pos ⟨d.1, by omega⟩]
    · rw [if_neg d, if_neg (fun k => d ⟨k.1, by omega⟩)]
theorem fillTo_last (r s : R) (p : P4) (F : Img) : fillTo (meetR s r) p (meetR s r).y1 (meetR s r).x0 F = fillF r s p F := by
  funext u v
  unfold fillTo fillF
  rw [has_meet]
  by_cases h : hasR s u v = true ∧ hasR r u v = true
  · have k : hasR (meetR s r) u v = true := by rw [has_meet, h.1, h.2]; rfl
    have := (hasR_iff _ u v).1 k
    rw [if_pos ⟨by rw [h.1, h.2]; rfl, by omega⟩, if_pos ⟨h.2, h.1⟩]
  · rw [if_neg (fun k => h (by simpa using k.1)), if_neg (fun k => h ⟨k.2, k.1⟩)]
end Go.Proofs.Yticeoppldlhehaa
