/- Plain arithmetic of tones: what the program's products, quotients and cuts compute, as functions on whole numbers, and what follows. No program in sight. No conditions beyond those each lemma states. -/
import Derived.Below
namespace Go.Proofs.Yticeoppldlhehaa
set_option linter.unusedVariables false

/-- The product, by adding a half. -/
def mulT (a b : Int) : Int := (a * b + 127) / 255
/-- The quotient. -/
def divT (c a : Int) : Int := if a = 0 then 0 else min ((c * 255 * 2 + a) / (2 * a)) 255
/-- The nearest tone. -/
def cutT (n : Int) : Int := max 0 (min n 255)

theorem prod_nonneg (a b : Int) (ha : 0 ≤ a) (hb : 0 ≤ b) : 0 ≤ a * b := Int.mul_nonneg ha hb
theorem prod_le (a b : Int) (ha : 0 ≤ a) (ha' : a ≤ 255) (hb : 0 ≤ b) (hb' : b ≤ 255) : a * b ≤ 65025 := by
  have h1 : a * b ≤ 255 * b := Int.mul_le_mul_of_nonneg_right ha' hb
  omega

theorem mulT_bd (a b : Int) (ha : 0 ≤ a) (ha' : a ≤ 255) (hb : 0 ≤ b) (hb' : b ≤ 255) : 0 ≤ mulT a b ∧ mulT a b ≤ 255 := by
  have h1 := prod_nonneg a b ha hb
  have h2 := prod_le a b ha ha' hb hb'
  unfold mulT
  generalize a * b = p at *
  omega
theorem mulT_comm (a b : Int) : mulT a b = mulT b a := by unfold mulT; rw [Int.mul_comm]
theorem mulT_255 (a : Int) : mulT a 255 = a := by unfold mulT; omega
theorem mulT_0 (a : Int) : mulT a 0 = 0 := by unfold mulT; simp
theorem mulT_near (a b : Int) : 2 * (255 * mulT a b - a * b) < 255 ∧ -255 < 2 * (255 * mulT a b - a * b) := by
  unfold mulT
  generalize a * b = p
  omega
theorem mulT_mono (a a' b : Int) (h : a ≤ a') (hb : 0 ≤ b) : mulT a b ≤ mulT a' b := by
  have h1 : a * b ≤ a' * b := Int.mul_le_mul_of_nonneg_right h hb
  unfold mulT
  omega
theorem mulT_le (a b : Int) (ha : 0 ≤ a) (hb' : b ≤ 255) : mulT a b ≤ a := by
  have h1 : a * b ≤ a * 255 := Int.mul_le_mul_of_nonneg_left hb' ha
  unfold mulT
  omega

theorem divT_bd (c a : Int) (hc : 0 ≤ c) (ha : 0 ≤ a) : 0 ≤ divT c a ∧ divT c a ≤ 255 := by
  unfold divT
  by_cases h : a = 0
  · simp [h]
  · rw [if_neg h]
    have : 0 ≤ (c * 255 * 2 + a) / (2 * a) := Int.ediv_nonneg (by omega) (by omega)
    omega
theorem divT_mono (c c' a : Int) (h : c ≤ c') (ha : 0 ≤ a) : divT c a ≤ divT c' a := by
  unfold divT
  by_cases h0 : a = 0
  · simp [h0]
  · rw [if_neg h0, if_neg h0]
    have : (c * 255 * 2 + a) / (2 * a) ≤ (c' * 255 * 2 + a) / (2 * a) := Int.ediv_le_ediv (by omega) (by omega)
    omega
/-- A right value, made plain and thick again, is itself. -/
theorem mulT_divT (c a : Int) (hc : 0 ≤ c) (h : c ≤ a) (ha2 : a ≤ 255) : mulT (divT c a) a = c := by
  unfold mulT divT
  by_cases h0 : a = 0
  · subst h0
    have : c = 0 := by omega
    subst this
    decide
  · rw [if_neg h0]
    have ha : 0 < a := by omega
    have hq : (c * 255 * 2 + a) / (2 * a) ≤ 255 := by
      have : (c * 255 * 2 + a) / (2 * a) < 256 := Int.ediv_lt_of_lt_mul (by omega) (by omega)
      omega
    rw [show min ((c * 255 * 2 + a) / (2 * a)) 255 = (c * 255 * 2 + a) / (2 * a) from by omega]
    have e1 := Int.mul_ediv_add_emod (c * 255 * 2 + a) (2 * a)
    have e2 := Int.emod_nonneg (c * 255 * 2 + a) (b := 2 * a) (by omega)
    have e3 := Int.emod_lt_of_pos (c * 255 * 2 + a) (b := 2 * a) (by omega)
    generalize (c * 255 * 2 + a) % (2 * a) = m at *
    generalize (c * 255 * 2 + a) / (2 * a) = q at *
    have e4 : 2 * a * q = 2 * (q * a) := by rw [Int.mul_assoc, Int.mul_comm a q]
    rw [e4] at e1
    generalize q * a = t at *
    omega
theorem cutT_bd (n : Int) : 0 ≤ cutT n ∧ cutT n ≤ 255 := by unfold cutT; omega
theorem cutT_in (n : Int) (h : 0 ≤ n) (h' : n ≤ 255) : cutT n = n := by unfold cutT; omega

/-- The references' own ways. -/
theorem ref_mul (a b : Int) (ha : 0 ≤ a) (ha' : a ≤ 255) (hb : 0 ≤ b) (hb' : b ≤ 255) :
    (255 < 2 * (a * b - 255 * (a * b / 255)) → a * b / 255 + 1 = mulT a b) ∧ (¬ 255 < 2 * (a * b - 255 * (a * b / 255)) → a * b / 255 = mulT a b) := by
  unfold mulT
  generalize a * b = p
  omega
theorem ref_div (c a : Int) (hc : 0 ≤ c) (hc' : c ≤ 255) (ha : 0 < a) (ha' : a ≤ 255) :
    (a ≤ 2 * (255 * c - a * (255 * c / a)) → min (255 * c / a + 1) 255 = divT c a) ∧ (¬ a ≤ 2 * (255 * c - a * (255 * c / a)) → min (255 * c / a) 255 = divT c a) := by
  unfold divT
  rw [if_neg (by omega)]
  have e1 := Int.mul_ediv_add_emod (c * 255 * 2 + a) (2 * a)
  have e2 := Int.emod_nonneg (c * 255 * 2 + a) (b := 2 * a) (by omega)
  have e3 := Int.emod_lt_of_pos (c * 255 * 2 + a) (b := 2 * a) (by omega)
  have f1 := Int.mul_ediv_add_emod (255 * c) a
  have f2 := Int.emod_nonneg (255 * c) (b := a) (by omega)
  have f3 := Int.emod_lt_of_pos (255 * c) (b := a) (by omega)
  generalize (c * 255 * 2 + a) % (2 * a) = m at *
  generalize (c * 255 * 2 + a) / (2 * a) = q at *
  generalize (255 * c) % a = m2 at *
  generalize (255 * c) / a = q2 at *
  have e4 : 2 * a * q = 2 * (a * q) := by rw [Int.mul_assoc]
  rw [e4] at e1
  have k1 : q2 ≤ q := by
    have : a * q2 < a * (q + 1) := by rw [Int.mul_add]; omega
    have := Int.lt_of_mul_lt_mul_left this (by omega)
    omega
  have k2 : q ≤ q2 + 1 := by
    have : a * q < a * (q2 + 2) := by rw [Int.mul_add]; omega
    have := Int.lt_of_mul_lt_mul_left this (by omega)
    omega
  have k3 : q = q2 ∨ q = q2 + 1 := by omega
  rcases k3 with rfl | rfl
  · omega
  · rw [Int.mul_add] at e1
    omega
/-- Is a pixel right? -/
def rightT (r g b a : Int) : Bool := decide (r ≤ a) && (decide (g ≤ a) && decide (b ≤ a))
theorem rightT_iff (r g b a : Int) : rightT r g b a = true ↔ r ≤ a ∧ g ≤ a ∧ b ≤ a := by simp [rightT]
end Go.Proofs.Yticeoppldlhehaa
