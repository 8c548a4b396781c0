/- Colours by a matrix in plain Lean: what the program's functions of layer 7 compute, and what follows. No program in sight. -/
import Derived.Test.YtghcpjahieaepaaToneL
namespace Go.Proofs.Ytghcpjahieaepaa
set_option linter.unusedVariables false

/-- A row's sum, for the row that begins at place o of the matrix. -/
def rowV (m : Nat → Int) (o : Nat) (r g b a : Int) : Int := cutT ((255 * m (o + 4) + 128 + m o * r + m (o + 1) * g + m (o + 2) * b + m (o + 3) * a) / 256)
/-- The four values that a matrix makes of plain ones. -/
def tint0 (m : Nat → Int) (r g b a : Int) : Int := mulT (rowV m 0 (divT r a) (divT g a) (divT b a) a) (rowV m 15 (divT r a) (divT g a) (divT b a) a)
def tint1 (m : Nat → Int) (r g b a : Int) : Int := mulT (rowV m 5 (divT r a) (divT g a) (divT b a) a) (rowV m 15 (divT r a) (divT g a) (divT b a) a)
def tint2 (m : Nat → Int) (r g b a : Int) : Int := mulT (rowV m 10 (divT r a) (divT g a) (divT b a) a) (rowV m 15 (divT r a) (divT g a) (divT b a) a)
def tint3 (m : Nat → Int) (r g b a : Int) : Int := rowV m 15 (divT r a) (divT g a) (divT b a) a
theorem rowV_bd (m : Nat → Int) (o : Nat) (r g b a : Int) : 0 ≤ rowV m o r g b a ∧ rowV m o r g b a ≤ 255 := cutT_bd _
theorem entry_bd (m c : Int) (hm : -32768 ≤ m ∧ m ≤ 32767) (hc : 0 ≤ c ∧ c ≤ 255) : -8355840 ≤ m * c ∧ m * c ≤ 8355840 := by
  have h1 : m * c ≤ 32767 * c := Int.mul_le_mul_of_nonneg_right hm.2 hc.1
  have h2 : -32768 * c ≤ m * c := Int.mul_le_mul_of_nonneg_right hm.1 hc.1
  omega
theorem getD_get (l : List Int) (i : Nat) (h : i < l.length) : l.getD i 0 = l[i] := by simp [List.getD, List.getElem?_eq_getElem h]
/-- The place of the numbers of a matrix: the first 'len' of a list, each within bounds, and 20 of them. -/
def matB (zs : List Int) (len : Nat) : Bool := decide (len = 20) && (zs.take len).all fun n => decide (-32768 ≤ n) && decide (n ≤ 32767)
theorem matB_iff (zs : List Int) (len : Nat) (hz : len ≤ zs.length) : matB zs len = true ↔ len = 20 ∧ ∀ i, i < len → -32768 ≤ zs.getD i 0 ∧ zs.getD i 0 ≤ 32767 := by
  simp only [matB, Bool.and_eq_true, decide_eq_true_eq, List.all_eq_true]
  constructor
  · rintro ⟨h, k⟩
    refine ⟨h, fun i hi => k _ ?_⟩
    rw [getD_get _ _ (by omega), List.mem_take_iff_getElem]
    exact ⟨i, by omega, rfl⟩
  · rintro ⟨h, k⟩
    refine ⟨h, fun n hn => ?_⟩
    rw [List.mem_take_iff_getElem] at hn
    obtain ⟨i, hi, rfl⟩ := hn
    have := k i (by omega)
    rwa [getD_get _ _ (by omega)] at this
/-- Rows hang on their own numbers alone. -/
theorem rowV_congr (m m' : Nat → Int) (o : Nat) (r g b a : Int) (h : ∀ j, j < 5 → m (o + j) = m' (o + j)) : rowV m o r g b a = rowV m' o r g b a := by
  have h0 := h 0 (by omega)
  have h1 := h 1 (by omega)
  have h2 := h 2 (by omega)
  have h3 := h 3 (by omega)
  have h4 := h 4 (by omega)
  simp only [Nat.add_zero] at h0
  unfold rowV
  rw [h0, h1, h2, h3, h4]
end Go.Proofs.Ytghcpjahieaepaa
