/- Sums and means of windows of pixels, in plain Lean. No program in sight. -/
import Derived.Test.YticeoppldlhehaaBufL
namespace Go.Proofs.Yticeoppldlhehaa
set_option linter.unusedVariables false

/-- A pixel added, so many times. -/
def addP (s p : P4) (t : Int) : P4 := ⟨s.r + t * p.r, s.g + t * p.g, s.b + t * p.b, s.a + t * p.a⟩
/-- The sums of n pixels, from a place on. -/
def sumP (f : Int → P4) (s : Int) : Nat → P4
  | 0 => noP
  | n + 1 => addP (sumP f s n) (f (s + (n : Int))) 1
theorem sumP_zero (f : Int → P4) (s : Int) : sumP f s 0 = noP := rfl
theorem sumP_succ (f : Int → P4) (s : Int) (n : Nat) : sumP f s (n + 1) = addP (sumP f s n) (f (s + (n : Int))) 1 := rfl
theorem sumP_head (f : Int → P4) (s : Int) (n : Nat) : sumP f s (n + 1) = addP (sumP f (s + 1) n) (f s) 1 := by
  induction n with
  | zero => simp [sumP]
  | succ n ih =>
    rw [sumP_succ, ih, sumP_succ f (s + 1) n, show s + ((n + 1 : Nat) : Int) = s + 1 + (n : Int) from by omega]
    simp only [addP, P4.mk.injEq]
    omega
/-- What leaves the window at its head. -/
theorem sumP_drop (f : Int → P4) (s : Int) (n : Nat) : addP (sumP f s (n + 1)) (f s) (-1) = sumP f (s + 1) n := by
  rw [sumP_head]
  obtain ⟨a, b, c, d⟩ := sumP f (s + 1) n
  simp only [addP, P4.mk.injEq]
  omega
theorem sumP_bd {f : Int → P4} (h : ∀ x, okP (f x)) (s : Int) : ∀ n : Nat, (0 ≤ (sumP f s n).r ∧ (sumP f s n).r ≤ 255 * n) ∧ (0 ≤ (sumP f s n).g ∧ (sumP f s n).g ≤ 255 * n) ∧ (0 ≤ (sumP f s n).b ∧ (sumP f s n).b ≤ 255 * n) ∧ (0 ≤ (sumP f s n).a ∧ (sumP f s n).a ≤ 255 * n)
  | 0 => by simp [sumP, noP]
  | n + 1 => by
    have ih := sumP_bd h s n
    have hp := h (s + (n : Int))
    unfold okP at hp
    rw [sumP_succ]
    simp only [addP]
    omega
theorem sumP_congr {f g : Int → P4} (s : Int) : ∀ n : Nat, (∀ k : Nat, k < n → f (s + k) = g (s + k)) → sumP f s n = sumP g s n
  | 0, _ => rfl
  | n + 1, h => by rw [sumP_succ, sumP_succ, sumP_congr s n (fun k hk => h k (by omega)), h n (by omega)]
theorem sumP_no (s : Int) : ∀ n : Nat, sumP (fun _ => noP) s n = noP
  | 0 => rfl
  | n + 1 => by rw [sumP_succ, sumP_no s n]; rfl
theorem sumP_same (p : P4) (s : Int) : ∀ n : Nat, sumP (fun _ => p) s n = ⟨n * p.r, n * p.g, n * p.b, n * p.a⟩
  | 0 => by simp [sumP, noP]
  | n + 1 => by
    rw [sumP_succ, sumP_same p s n]
    simp only [addP, P4.mk.injEq, Int.natCast_add, Int.add_mul]
    simp

/-- The number nearest to an n-th of a sum. -/
def near (s n : Int) : Int := (s + n / 2) / n
theorem near_bd {s n : Int} (hn : 0 < n) (h0 : 0 ≤ s) (h1 : s ≤ 255 * n) (ho : n % 2 = 1) : 0 ≤ near s n ∧ near s n ≤ 255 := by
  unfold near
  refine ⟨Int.ediv_nonneg (by omega) (by omega), ?_⟩
  have : (s + n / 2) / n < 256 := Int.ediv_lt_of_lt_mul hn (by omega)
  omega
/-- What the document says of it. -/
theorem near_doc {s n : Int} (hn : 0 < n) (h0 : 0 ≤ s) (ho : n % 2 = 1) : near s n = if 2 * (s - s / n * n) > n then s / n + 1 else s / n := by
  unfold near
  have e := Int.mul_ediv_add_emod s n
  have m0 := Int.emod_nonneg s (b := n) (by omega)
  have m1 := Int.emod_lt_of_pos s hn
  have hc : s / n * n = n * (s / n) := Int.mul_comm _ _
  have e1 : s - s / n * n = s % n := by omega
  rw [e1]
  have e2 : s + n / 2 = (s % n + n / 2) + n * (s / n) := by omega
  rw [e2, Int.add_mul_ediv_left _ _ (by omega)]
  split
  · have : (s % n + n / 2) / n = 1 := by
      have a : 1 ≤ (s % n + n / 2) / n := Int.le_ediv_of_mul_le hn (by omega)
      have b : (s % n + n / 2) / n < 2 := Int.ediv_lt_of_lt_mul hn (by omega)
      omega
    omega
  · have : (s % n + n / 2) / n = 0 := Int.ediv_eq_zero_of_lt (by omega) (by omega)
    omega
/-- It lies less than half a number off. -/
theorem near_close {s n : Int} (hn : 0 < n) (ho : n % 2 = 1) : 2 * (near s n * n - s) < n ∧ -n < 2 * (near s n * n - s) := by
  unfold near
  have e := Int.mul_ediv_add_emod (s + n / 2) n
  have m0 := Int.emod_nonneg (s + n / 2) (b := n) (by omega)
  have m1 := Int.emod_lt_of_pos (s + n / 2) hn
  have hc : (s + n / 2) / n * n = n * ((s + n / 2) / n) := Int.mul_comm _ _
  omega
theorem near_mul {p n : Int} (hn : 0 < n) (ho : n % 2 = 1) : near (n * p) n = p := by
  unfold near
  rw [Int.add_comm, Int.add_mul_ediv_left _ _ (by omega), Int.ediv_eq_zero_of_lt (by omega) (by omega)]
  omega

/-- The means of so many. -/
def meanP (s : P4) (n : Int) : P4 := ⟨near s.r n, near s.g n, near s.b n, near s.a n⟩
/-- How many a window of a radius holds. -/
def winN (r : Int) : Nat := (2 * r + 1).toNat
theorem winN_eq {r : Int} (h : 0 ≤ r) : ((winN r : Nat) : Int) = 2 * r + 1 := by unfold winN; omega
def blurH (F : Img) (r : Int) : Img := fun x y => meanP (sumP (fun u => F u y) (x - r) (winN r)) (2 * r + 1)
def blurV (F : Img) (r : Int) : Img := fun x y => meanP (sumP (fun v => F x v) (y - r) (winN r)) (2 * r + 1)
theorem meanP_ok {f : Int → P4} (h : ∀ x, okP (f x)) (s r : Int) (hr : 0 ≤ r) : okP (meanP (sumP f s (winN r)) (2 * r + 1)) := by
  have b := sumP_bd h s (winN r)
  rw [winN_eq hr] at b
  obtain ⟨b0, b1, b2, b3⟩ := b
  exact ⟨near_bd (by omega) b0.1 b0.2 (by omega), near_bd (by omega) b1.1 b1.2 (by omega), near_bd (by omega) b2.1 b2.2 (by omega), near_bd (by omega) b3.1 b3.2 (by omega)⟩
theorem blurH_ok {F : Img} (h : ∀ x y, okP (F x y)) {r : Int} (hr : 0 ≤ r) (x y : Int) : okP (blurH F r x y) := meanP_ok (fun u => h u y) _ r hr
theorem blurV_ok {F : Img} (h : ∀ x y, okP (F x y)) {r : Int} (hr : 0 ≤ r) (x y : Int) : okP (blurV F r x y) := meanP_ok (fun v => h x v) _ r hr
theorem meanP_no {n : Int} (hn : 0 < n) : meanP noP n = noP := by
  simp only [meanP, noP, near, P4.mk.injEq]
  have : (0 + n / 2) / n = 0 := Int.ediv_eq_zero_of_lt (by omega) (by omega)
  omega
theorem meanP_same {p : P4} {r : Int} (hr : 0 ≤ r) (s : Int) : meanP (sumP (fun _ => p) s (winN r)) (2 * r + 1) = p := by
  rw [sumP_same, winN_eq hr]
  simp only [meanP, near_mul (n := 2 * r + 1) (by omega) (by omega)]
/-- By nought nothing changes. -/
theorem blurH_zero (F : Img) : blurH F 0 = F := by
  funext x y
  show meanP (sumP (fun u => F u y) (x - 0) 1) 1 = F x y
  rw [sumP_succ, sumP_zero]
  have : x - 0 + ((0 : Nat) : Int) = x := by omega
  rw [this]
  simp [meanP, addP, noP, near]
theorem blurV_zero (F : Img) : blurV F 0 = F := by
  funext x y
  show meanP (sumP (fun v => F x v) (y - 0) 1) 1 = F x y
  rw [sumP_succ, sumP_zero]
  have : y - 0 + ((0 : Nat) : Int) = y := by omega
  rw [this]
  simp [meanP, addP, noP, near]
/-- In a row that shows nothing nothing stands. -/
theorem blurH_out {F : Img} {r y : Int} (hr : 0 ≤ r) (h : ∀ x, F x y = noP) (x : Int) : blurH F r x y = noP := by
  unfold blurH
  rw [show (fun u => F u y) = fun _ => noP from funext h, sumP_no, meanP_no (by omega)]

/-! Written row by row, or column by column. -/
def upTo (m : R) (G : Img) (y x : Int) (F : Img) : Img := fun u v => if hasR m u v = true ∧ (v < y ∨ (v = y ∧ u < x)) then G u v else F u v
def upToC (m : R) (G : Img) (x y : Int) (F : Img) : Img := fun u v => if hasR m u v = true ∧ (u < x ∨ (u = x ∧ v < y)) then G u v else F u v
theorem upTo_first (m : R) (G F : Img) : upTo m G m.y0 m.x0 F = F := by
  funext u v
  unfold upTo
  rw [if_neg]
  rintro ⟨h, k⟩
  have := (hasR_iff m u v).1 h
  omega
theorem upToC_first (m : R) (G F : Img) : upToC m G m.x0 m.y0 F = F := by
  funext u v
  unfold upToC
  rw [if_neg]
  rintro ⟨h, k⟩
  have := (hasR_iff m u v).1 h
  omega
theorem upTo_next {m : R} {G F : Img} {y x : Int} (h : hasR m x y = true) : putF m (upTo m G y x F) x y (G x y) = upTo m G y (x + 1) F := by
  funext u v
  unfold putF upTo
  by_cases c : u = x ∧ v = y
  · obtain ⟨rfl, rfl⟩ := c
    rw [if_pos ⟨h, rfl, rfl⟩, if_pos ⟨h, by omega⟩]
  · rw [if_neg (fun k => c ⟨k.2.1, k.2.2⟩)]
    by_cases d : hasR m u v = true ∧ (v < y ∨ (v = y ∧ u < x))
    · rw [if_pos d, if_pos ⟨d.1, by omega⟩]
    · rw [if_neg d, if_neg (fun k => d ⟨k.1, by omega⟩)]
theorem upToC_next {m : R} {G F : Img} {x y : Int} (h : hasR m x y = true) : putF m (upToC m G x y F) x y (G x y) = upToC m G x (y + 1) F := by
  funext u v
  unfold putF upToC
  by_cases c : u = x ∧ v = y
  · obtain ⟨rfl, rfl⟩ := c
    rw [if_pos ⟨h, rfl, rfl⟩, if_pos ⟨h, by omega⟩]
  · rw [if_neg (fun k => c ⟨k.2.1, k.2.2⟩)]
    by_cases d : hasR m u v = true ∧ (u < x ∨ (u = x ∧ v < y))
    · rw [if_pos d, if_pos ⟨d.1, by omega⟩]
    · rw [if_neg d, if_neg (fun k => d ⟨k.1, by omega⟩)]
theorem upTo_row (m : R) (G F : Img) (y : Int) : upTo m G y m.x1 F = upTo m G (y + 1) m.x0 F := by
  funext u v
  unfold upTo
  by_cases h : hasR m u v = true
  · have k := (hasR_iff m u v).1 h
    simp only [h, true_and]
    by_cases c : v < y ∨ (v = y ∧ u < m.x1)
    · rw [if_pos c, if_pos (by omega)]
    · rw [if_neg c, if_neg (by omega)]
  · simp [h]
theorem upToC_col (m : R) (G F : Img) (x : Int) : upToC m G x m.y1 F = upToC m G (x + 1) m.y0 F := by
  funext u v
  unfold upToC
  by_cases h : hasR m u v = true
  · have k := (hasR_iff m u v).1 h
    simp only [h, true_and]
    by_cases c : u < x ∨ (u = x ∧ v < m.y1)
    · rw [if_pos c, if_pos (by omega)]
    · rw [if_neg c, if_neg (by omega)]
  · simp [h]
theorem upTo_last (m : R) (G : Img) : upTo m G m.y1 m.x0 noF = cutF m G := by
  funext u v
  unfold upTo cutF noF
  by_cases h : hasR m u v = true
  · have k := (hasR_iff m u v).1 h
    rw [if_pos ⟨h, by omega⟩, if_pos h]
  · rw [if_neg (fun k => h k.1), if_neg h]
theorem upToC_last (m : R) (G : Img) : upToC m G m.x1 m.y0 noF = cutF m G := by
  funext u v
  unfold upToC cutF noF
  by_cases h : hasR m u v = true
  · have k := (hasR_iff m u v).1 h
    rw [if_pos ⟨h, by omega⟩, if_pos h]
  · rw [if_neg (fun k => h k.1), if_neg h]
/-- A row in which nothing is to be written. -/
theorem upTo_skip {m : R} {G : Img} {y : Int} (h : ∀ x, G x y = noP) : upTo m G y m.x0 noF = upTo m G (y + 1) m.x0 noF := by
  funext u v
  unfold upTo noF
  by_cases hm : hasR m u v = true
  · have k := (hasR_iff m u v).1 hm
    by_cases c : v < y
    · rw [if_pos ⟨hm, Or.inl c⟩, if_pos ⟨hm, by omega⟩]
    · rw [if_neg (by omega)]
      by_cases d : v = y
      · subst d; rw [if_pos ⟨hm, by omega⟩, h]
      · rw [if_neg (by omega)]
  · rw [if_neg (fun k => hm k.1), if_neg (fun k => hm k.1)]
theorem Fits.upTo {m : R} {G : Img} (h : ∀ x y, okP (G x y)) (y x : Int) : Fits m (upTo m G y x noF) :=
  ⟨fun u v => by
    unfold Go.Proofs.Yticeoppldlhehaa.upTo
    split
    · exact h u v
    · exact okP_no, fun u v hn => by
    unfold Go.Proofs.Yticeoppldlhehaa.upTo
    rw [if_neg (fun k => by rw [hn] at k; exact absurd k.1 (by simp))]
    rfl⟩
theorem Fits.upToC {m : R} {G : Img} (h : ∀ x y, okP (G x y)) (x y : Int) : Fits m (upToC m G x y noF) :=
  ⟨fun u v => by
    unfold Go.Proofs.Yticeoppldlhehaa.upToC
    split
    · exact h u v
    · exact okP_no, fun u v hn => by
    unfold Go.Proofs.Yticeoppldlhehaa.upToC
    rw [if_neg (fun k => by rw [hn] at k; exact absurd k.1 (by simp))]
    rfl⟩
end Go.Proofs.Yticeoppldlhehaa
