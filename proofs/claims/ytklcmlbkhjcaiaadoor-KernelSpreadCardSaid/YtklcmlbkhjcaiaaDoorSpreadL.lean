/- Layer 13, plain: where inputs that differ in a region make what differs. -/
import Derived.Test.YtklcmlbkhjcaiaaDoorK10
import Derived.Test.YtklcmlbkhjcaiaaDoorK21



namespace Go.Proofs.YtklcmlbkhjcaiaaDoor
open Go.RowKit
set_option linter.unusedVariables false

/-- Outside of the spread's rectangles no point that matters lies in the region. -/
def SpreadOk (op : Int) (p : Nat → Int) (r : R) (o : Nat → R) (m : Nat) : Prop := ∀ x y, (-536870912 ≤ x ∧ x ≤ 536870912) → (-536870912 ≤ y ∧ y ≤ 536870912) → hasL o m x y = false → ∀ u v, winW op p x y u v → hasR r u v = false
theorem hasL_yes {f : Nat → R} {n i : Nat} {x y : Int} (hi : i < n) (h : hasR (f i) x y = true) : hasL f n x y = true := (hasL_iff f x y n).2 ⟨i, hi, h⟩
theorem hasL_no {f : Nat → R} {n i : Nat} {x y : Int} (h : hasL f n x y = false) (hi : i < n) : hasR (f i) x y = false := by
  cases c : hasR (f i) x y
  · rfl
  · rw [hasL_yes hi c] at h; cases h
theorem spread_1 {p : Nat → Int} {r : R} {f o : Nat → R} {n m k : Nat} (hk : NodeOk 1 p k) (hf : ∀ u v, hasL f n u v = hasR r u v) (ho : ∀ u v, hasL o m u v = hasL (fun i => moveR (f i) (p 0) (p 1)) n u v) (hr : ∀ i, i < n → rightR (f i) = true) : SpreadOk 1 p r o m := fun x y nx ny no u v hw => by
  have hx : farI x := by unfold farI; omega
  have hy : farI y := by unfold farI; omega
  have hp := hk.off rfl
  simp [winW] at hw
  obtain ⟨rfl, rfl⟩ := hw
  rw [ho] at no
  rw [← hf]
  cases c : hasL f n (x - p 0) (y - p 1)
  · rfl
  · obtain ⟨i, hi, h⟩ := (hasL_iff _ _ _ _).1 c
    have q := hasL_no no hi
    rw [has_moveR (hr i hi) (by unfold farI; omega) (by unfold farI; omega) hx hy, h] at q
    cases q
theorem grow_no {f : Nat → R} {n : Nat} {a b x y u v : Int} (hx : farI x) (hy : farI y) (no : hasL (fun i => growR (f i) a b a b) n x y = false) (h1 : x - a ≤ u ∧ u ≤ x + a) (h2 : y - b ≤ v ∧ v ≤ y + b) : hasL f n u v = false := by
  cases c : hasL f n u v
  · rfl
  · obtain ⟨i, hi, h⟩ := (hasL_iff _ _ _ _).1 c
    have q := hasL_no no hi
    have k := (hasR_iff _ _ _).1 h
    have e : hasR (growR (f i) a b a b) x y = true := (has_growR hx hy).2 ⟨has_nonempty h, by omega, by omega, by omega, by omega⟩
    rw [e] at q
    cases q
theorem spread_2 {op : Int} {p : Nat → Int} {r : R} {f o : Nat → R} {n m : Nat} (hop : 2 ≤ op ∧ op ≤ 4) (hf : ∀ u v, hasL f n u v = hasR r u v) (ho : ∀ u v, hasL o m u v = hasL (fun i => growR (f i) (p 0) (p 1) (p 0) (p 1)) n u v) : SpreadOk op p r o m := fun x y nx ny no u v hw => by
  have hx : farI x := by unfold farI; omega
  have hy : farI y := by unfold farI; omega
  have hw : (x - p 0 ≤ u ∧ u ≤ x + p 0) ∧ (y - p 1 ≤ v ∧ v ≤ y + p 1) := by
    unfold winW at hw
    rwa [if_neg (by omega), if_pos (by omega)] at hw
  rw [ho] at no
  rw [← hf]
  exact grow_no hx hy no hw.1 hw.2
theorem spread_12 {p : Nat → Int} {r : R} {f o : Nat → R} {n m : Nat} (hf : ∀ u v, hasL f n u v = hasR r u v) (ho : ∀ u v, hasL o m u v = wantB 1 (hasL f n u v) (hasL (fun _ => boxO p 0) 1 u v)) : SpreadOk 12 p r o m := fun x y nx ny no u v hw => by
  have hx : farI x := by unfold farI; omega
  have hy : farI y := by unfold farI; omega
  simp [winW] at hw
  obtain ⟨⟨rfl, rfl⟩, hb⟩ := hw
  rw [ho, hf] at no
  simp [wantB, hasL, hb] at no
  exact no
theorem spread_10 {p : Nat → Int} {r : R} {f o o' : Nat → R} {n k : Nat} (hk : NodeOk 10 p k) (hf : ∀ u v, hasL f n u v = hasR r u v) (ho : ∀ u v, hasL o' 0 u v = wantB 1 (hasL f n u v) (hasL (fun _ => boxO p 0) 1 u v)) : SpreadOk 10 p r o 0 := fun x y nx ny no u v hw => by
  have hx : farI x := by unfold farI; omega
  have hy : farI y := by unfold farI; omega
  have hb := hk.box10 rfl
  simp [winW] at hw
  have q1 := Int.emod_nonneg (x - p 0) (show p 2 - p 0 ≠ 0 by omega)
  have q2 := Int.emod_lt_of_pos (x - p 0) (show 0 < p 2 - p 0 by omega)
  have q3 := Int.emod_nonneg (y - p 1) (show p 3 - p 1 ≠ 0 by omega)
  have q4 := Int.emod_lt_of_pos (y - p 1) (show 0 < p 3 - p 1 by omega)
  have hbx : hasR (boxO p 0) u v = true := by
    rw [hasR_iff]
    simp only [boxO, Nat.zero_add]
    omega
  have e := ho u v
  rw [hf] at e
  simp [wantB, hasL, hbx] at e
  exact e
theorem spread_all {op : Int} {p : Nat → Int} {r : R} : SpreadOk op p r (fun _ => allR) 1 := fun x y nx ny no u v hw => by
  have hx : farI x := by unfold farI; omega
  have hy : farI y := by unfold farI; omega
  have : hasL (fun _ => allR) 1 x y = true := hasL_yes (i := 0) (by omega) (has_allR hx hy)
  rw [this] at no
  cases no
theorem spread_11 {p : Nat → Int} {r : R} {f g1 g2 o : Nat → R} {n n1 n2 m k : Nat} (hk : NodeOk 11 p k) (hf : ∀ u v, hasL f n u v = hasR r u v) (h1 : ∀ u v, hasL g1 n1 u v = hasL (fun i => moveR (f i) (p 0) (p 1)) n u v) (h2 : ∀ u v, hasL g2 n2 u v = hasL (fun i => growR (g1 i) (p 2) (p 3) (p 2) (p 3)) n1 u v) (ho : ∀ u v, hasL o m u v = wantB 0 (hasL f n u v) (hasL g2 n2 u v)) (hr : ∀ i, i < n → rightR (f i) = true) : SpreadOk 11 p r o m := fun x y nx ny no u v hw => by
  have hx : farI x := by unfold farI; omega
  have hy : farI y := by unfold farI; omega
  have hp := hk.off11 rfl
  rw [ho] at no
  have e : hasL f n x y = false ∧ hasL g2 n2 x y = false := by simpa [wantB] using no
  simp [winW] at hw
  rcases hw with ⟨rfl, rfl⟩ | hw
  · rw [← hf]; exact e.1
  · have n2 := e.2
    rw [h2] at n2
    have n1 := grow_no hx hy n2 (u := u + p 0) (v := v + p 1) (by omega) (by omega)
    rw [h1] at n1
    rw [← hf]
    cases c : hasL f n u v
    · rfl
    · obtain ⟨i, hi, h⟩ := (hasL_iff _ _ _ _).1 c
      have q := hasL_no n1 hi
      rw [has_moveR (hr i hi) (by unfold farI; omega) (by unfold farI; omega) (by unfold farI; omega) (by unfold farI; omega), show u + p 0 - p 0 = u from by omega, show v + p 1 - p 1 = v from by omega, h] at q
      cases q
theorem spread_u {op : Int} {p : Nat → Int} {r : R} {o : Nat → R} {m : Nat} (hop : op = 5 ∨ op = 7 ∨ op = 8 ∨ op = 9) (ho : ∀ u v, hasL o m u v = hasR r u v) : SpreadOk op p r o m := fun x y nx ny no u v hw => by
  have hx : farI x := by unfold farI; omega
  have hy : farI y := by unfold farI; omega
  have hw : u = x ∧ v = y := by
    unfold winW at hw
    rwa [if_neg (by omega), if_neg (by omega), if_neg (by omega), if_neg (by omega), if_neg (by omega), if_neg (by omega)] at hw
  rw [hw.1, hw.2, ← ho]
  exact no
theorem spread_6 {p : Nat → Int} {r : R} {o : Nat → R} {m : Nat} : SpreadOk 6 p r o m := fun x y nx ny no u v hw => by
  have hx : farI x := by unfold farI; omega
  have hy : farI y := by unfold farI; omega
  simp [winW] at hw
/-- Inputs that are the same outside of a region make the same outside of its spread. -/
theorem spread_law {op : Int} {p : Nat → Int} {n m : Nat} {F G : Nat → Img} {r s : R} {o : Nat → R} {x y : Int} (hk : NodeOk op p n) (hs : smallR s) (hsp : SpreadOk op p r o m) (hFG : ∀ i, i < n → ∀ u v, hasR r u v = false → F i u v = G i u v) (hin : hasR s x y = true) (no : hasL o m x y = false) : doF op p n F s x y = doF op p n G s x y := by
  have hsf := small_far hs hin
  exact doF_congr hk hs fun i hi u v hw => hFG i hi u v (hsp x y (by omega) (by omega) no u v hw)
end Go.Proofs.YtklcmlbkhjcaiaaDoor
