/- The greatest of windows of bytes, and the queue that tells it, in plain Lean. No program in sight. -/
import Derived.Test.YtbpcpndiohlchaaBlurL
namespace Go.Proofs.Ytbpcpndiohlchaa
set_option linter.unusedVariables false

/-- The greatest of n numbers, from a place on; of none it is 0. -/
def mxW (f : Int → Int) (s : Int) : Nat → Int
  | 0 => 0
  | n + 1 => if mxW f s n ≤ f (s + (n : Int)) then f (s + (n : Int)) else mxW f s n
theorem mxW_succ (f : Int → Int) (s : Int) (n : Nat) : mxW f s (n + 1) = if mxW f s n ≤ f (s + (n : Int)) then f (s + (n : Int)) else mxW f s n := rfl
theorem mxW_ge (f : Int → Int) (s : Int) : ∀ n k : Nat, k < n → f (s + (k : Int)) ≤ mxW f s n
  | 0, k, h => by omega
  | n + 1, k, h => by
    rw [mxW_succ]
    by_cases e : k = n
    · subst e; split <;> omega
    · have := mxW_ge f s n k (by omega)
      split <;> omega
theorem mxW_is {f : Int → Int} (h : ∀ x, 0 ≤ f x) (s : Int) : ∀ n : Nat, 0 < n → ∃ k : Nat, k < n ∧ mxW f s n = f (s + (k : Int))
  | n + 1, _ => by
    rw [mxW_succ]
    split
    · exact ⟨n, by omega, rfl⟩
    · rename_i hc
      cases n with
      | zero => exact absurd (h _) hc
      | succ n => obtain ⟨k, hk, e⟩ := mxW_is h s (n + 1) (by omega); exact ⟨k, by omega, e⟩
theorem mxW_bd {f : Int → Int} (h : ∀ x, 0 ≤ f x ∧ f x ≤ 255) (s : Int) : ∀ n : Nat, 0 ≤ mxW f s n ∧ mxW f s n ≤ 255
  | 0 => by simp [mxW]
  | n + 1 => by
    rw [mxW_succ]
    have := mxW_bd h s n
    split
    · exact h _
    · exact this
theorem mxW_of {f : Int → Int} {s : Int} {n : Nat} {m : Int} (h : ∀ x, 0 ≤ f x) (hge : ∀ k : Nat, k < n → f (s + (k : Int)) ≤ m) (k : Nat) (hk : k < n) (e : m = f (s + (k : Int))) : mxW f s n = m := by
  have h1 := mxW_ge f s n k hk
  obtain ⟨j, hj, e2⟩ := mxW_is h s n (by omega)
  have := hge j hj
  omega
theorem mxW_le {f : Int → Int} {s m : Int} (h0 : 0 ≤ m) : ∀ n : Nat, (∀ k : Nat, k < n → f (s + (k : Int)) ≤ m) → mxW f s n ≤ m
  | 0, _ => h0
  | n + 1, h => by
    rw [mxW_succ]
    have h1 := mxW_le h0 n (fun k hk => h k (by omega))
    have h2 := h n (by omega)
    split <;> omega
theorem mxW_congr {f g : Int → Int} {s t : Int} : ∀ n : Nat, (∀ k : Nat, k < n → f (s + (k : Int)) = g (t + (k : Int))) → mxW f s n = mxW g t n
  | 0, _ => rfl
  | n + 1, h => by rw [mxW_succ, mxW_succ, mxW_congr n (fun k hk => h k (by omega)), h n (by omega)]
theorem mxW_mono {f g : Int → Int} (h : ∀ x, f x ≤ g x) (s : Int) : ∀ n : Nat, mxW f s n ≤ mxW g s n
  | 0 => Int.le_refl _
  | n + 1 => by
    rw [mxW_succ, mxW_succ]
    have h1 := mxW_mono h s n
    have h2 := h (s + (n : Int))
    split <;> split <;> omega
theorem mxW_one {f : Int → Int} (h : ∀ x, 0 ≤ f x) (s : Int) : mxW f s 1 = f s := by
  rw [mxW_succ]
  have e : s + ((0 : Nat) : Int) = s := by omega
  rw [e]
  exact if_pos (h s)

/-- A byte, turned over or not. -/
def turnV (k : Bool) (v : Int) : Int := if k = true then v else 255 - v
theorem turnV_turn (k : Bool) (v : Int) : turnV k (turnV k v) = v := by unfold turnV; split <;> omega
theorem turnV_bd (k : Bool) {v : Int} (h : 0 ≤ v ∧ v ≤ 255) : 0 ≤ turnV k v ∧ turnV k v ≤ 255 := by unfold turnV; split <;> omega
def turnP (k : Bool) (p : P4) : P4 := ⟨turnV k p.r, turnV k p.g, turnV k p.b, turnV k p.a⟩
theorem turnP_turn (k : Bool) (p : P4) : turnP k (turnP k p) = p := by simp only [turnP, turnV_turn]
theorem turnP_ok (k : Bool) {p : P4} (h : okP p) : okP (turnP k p) := ⟨turnV_bd k h.1, turnV_bd k h.2.1, turnV_bd k h.2.2.1, turnV_bd k h.2.2.2⟩
theorem turnP_chan (k : Bool) (p : P4) {c : Nat} : chan (turnP k p) c = turnV k (chan p c) := by
  unfold chan turnP
  split
  · rfl
  split
  · rfl
  split <;> rfl
/-- The greatest of n pixels, value by value. -/
def winP (f : Int → P4) (s : Int) (n : Nat) : P4 := ⟨mxW (fun x => (f x).r) s n, mxW (fun x => (f x).g) s n, mxW (fun x => (f x).b) s n, mxW (fun x => (f x).a) s n⟩
theorem winP_ok {f : Int → P4} (h : ∀ x, okP (f x)) (s : Int) (n : Nat) : okP (winP f s n) := ⟨mxW_bd (fun x => (h x).1) s n, mxW_bd (fun x => (h x).2.1) s n, mxW_bd (fun x => (h x).2.2.1) s n, mxW_bd (fun x => (h x).2.2.2) s n⟩
theorem winP_chan (f : Int → P4) (s : Int) (n c : Nat) : chan (winP f s n) c = mxW (fun x => chan (f x) c) s n := by
  unfold chan winP
  by_cases h0 : c = 0
  · simp only [h0, if_true]
  by_cases h1 : c = 1
  · simp only [h1, if_true]; rfl
  by_cases h2 : c = 2
  · simp only [h2, if_true]; rfl
  simp only [h0, h1, h2, if_false]
theorem p4_ext {p q : P4} (h : ∀ c, c < 4 → chan p c = chan q c) : p = q := by
  obtain ⟨p0, p1, p2, p3⟩ := p
  obtain ⟨q0, q1, q2, q3⟩ := q
  have h0 := h 0 (by omega)
  have h1 := h 1 (by omega)
  have h2 := h 2 (by omega)
  have h3 := h 3 (by omega)
  simp only [chan] at h0 h1 h2 h3
  simp at h0 h1 h2 h3
  simp [h0, h1, h2, h3]
theorem okP_chan {p : P4} (h : ∀ c, c < 4 → 0 ≤ chan p c ∧ chan p c ≤ 255) : okP p := by
  have h0 := h 0 (by omega)
  have h1 := h 1 (by omega)
  have h2 := h 2 (by omega)
  have h3 := h 3 (by omega)
  simp only [chan] at h0 h1 h2 h3
  simp at h0 h1 h2 h3
  exact ⟨h0, h1, h2, h3⟩
/-- The greatest (or the least) along a row; along a column. -/
def morphH (k : Bool) (F : Img) (r : Int) : Img := fun x y => turnP k (winP (fun u => turnP k (F u y)) (x - r) (winN r))
def morphV (k : Bool) (F : Img) (r : Int) : Img := fun x y => turnP k (winP (fun v => turnP k (F x v)) (y - r) (winN r))
theorem morphH_ok {F : Img} (h : ∀ x y, okP (F x y)) (k : Bool) (r x y : Int) : okP (morphH k F r x y) := turnP_ok k (winP_ok (fun u => turnP_ok k (h u y)) _ _)
theorem morphV_ok {F : Img} (h : ∀ x y, okP (F x y)) (k : Bool) (r x y : Int) : okP (morphV k F r x y) := turnP_ok k (winP_ok (fun v => turnP_ok k (h x v)) _ _)
theorem morphH_chan (k : Bool) (F : Img) (r x y : Int) (c : Nat) : chan (morphH k F r x y) c = turnV k (mxW (fun u => turnV k (chan (F u y) c)) (x - r) (winN r)) := by
  unfold morphH
  rw [turnP_chan, winP_chan]
  simp only [turnP_chan]
theorem morphV_chan (k : Bool) (F : Img) (r x y : Int) (c : Nat) : chan (morphV k F r x y) c = turnV k (mxW (fun v => turnV k (chan (F x v) c)) (y - r) (winN r)) := by
  unfold morphV
  rw [turnP_chan, winP_chan]
  simp only [turnP_chan]
theorem winP_one {f : Int → P4} (h : ∀ x, okP (f x)) (s : Int) : winP f s 1 = f s := by
  unfold winP
  rw [mxW_one (fun x => (h x).1.1), mxW_one (fun x => (h x).2.1.1), mxW_one (fun x => (h x).2.2.1.1), mxW_one (fun x => (h x).2.2.2.1)]
theorem morphH_zero {F : Img} (h : ∀ x y, okP (F x y)) (k : Bool) : morphH k F 0 = F := by
  funext x y
  show turnP k (winP (fun u => turnP k (F u y)) (x - 0) 1) = F x y
  rw [winP_one (fun u => turnP_ok k (h u y)), Int.sub_zero, turnP_turn]
theorem morphV_zero {F : Img} (h : ∀ x y, okP (F x y)) (k : Bool) : morphV k F 0 = F := by
  funext x y
  show turnP k (winP (fun v => turnP k (F x v)) (y - 0) 1) = F x y
  rw [winP_one (fun v => turnP_ok k (h x v)), Int.sub_zero, turnP_turn]

/-! A row is written value by value: which of a pixel's values are there. -/
def mixC (c : Nat) (p q : P4) : P4 := ⟨if 0 < c then p.r else q.r, if 1 < c then p.g else q.g, if 2 < c then p.b else q.b, if 3 < c then p.a else q.a⟩
theorem mixC_zero (p q : P4) : mixC 0 p q = q := by simp [mixC]
theorem mixC_four (p q : P4) : mixC 4 p q = p := by simp [mixC]
theorem mixC_ok {c : Nat} {p q : P4} (hp : okP p) (hq : okP q) : okP (mixC c p q) := by
  unfold mixC okP at *
  refine ⟨?_, ?_, ?_, ?_⟩ <;> simp only <;> split <;> omega
/-- Row y: up to x the values before c + 1, from x on those before c. -/
def rowC (m : R) (G : Img) (c : Nat) (y x : Int) : Img := fun u v => if hasR m u v = true then (if v < y then G u v else if v = y then (if u < x then mixC (c + 1) (G u v) noP else mixC c (G u v) noP) else noP) else noP
def colC (m : R) (G : Img) (c : Nat) (x y : Int) : Img := fun u v => if hasR m u v = true then (if u < x then G u v else if u = x then (if v < y then mixC (c + 1) (G u v) noP else mixC c (G u v) noP) else noP) else noP
theorem rowC_first (m : R) (G : Img) (y : Int) : rowC m G 0 y m.x0 = upTo m G y m.x0 noF := by
  funext u v
  unfold rowC upTo noF
  by_cases h : hasR m u v = true
  · have k := (hasR_iff m u v).1 h
    rw [if_pos h]
    by_cases c : v < y
    · rw [if_pos c, if_pos ⟨h, Or.inl c⟩]
    · rw [if_neg c]
      by_cases d : v = y
      · rw [if_pos d, if_neg (show ¬ u < m.x0 by omega), mixC_zero, if_neg (show ¬ (hasR m u v = true ∧ (v < y ∨ (v = y ∧ u < m.x0))) by omega)]
      · rw [if_neg d, if_neg (show ¬ (hasR m u v = true ∧ (v < y ∨ (v = y ∧ u < m.x0))) by omega)]
  · rw [if_neg h, if_neg (fun k => h k.1)]
theorem colC_first (m : R) (G : Img) (x : Int) : colC m G 0 x m.y0 = upToC m G x m.y0 noF := by
  funext u v
  unfold colC upToC noF
  by_cases h : hasR m u v = true
  · have k := (hasR_iff m u v).1 h
    rw [if_pos h]
    by_cases c : u < x
    · rw [if_pos c, if_pos ⟨h, Or.inl c⟩]
    · rw [if_neg c]
      by_cases d : u = x
      · rw [if_pos d, if_neg (show ¬ v < m.y0 by omega), mixC_zero, if_neg (show ¬ (hasR m u v = true ∧ (u < x ∨ (u = x ∧ v < m.y0))) by omega)]
      · rw [if_neg d, if_neg (show ¬ (hasR m u v = true ∧ (u < x ∨ (u = x ∧ v < m.y0))) by omega)]
  · rw [if_neg h, if_neg (fun k => h k.1)]
theorem rowC_turn (m : R) (G : Img) (c : Nat) (y : Int) : rowC m G c y m.x1 = rowC m G (c + 1) y m.x0 := by
  funext u v
  unfold rowC
  by_cases h : hasR m u v = true
  · have k := (hasR_iff m u v).1 h
    rw [if_pos h, if_pos h]
    by_cases cy : v < y
    · rw [if_pos cy, if_pos cy]
    rw [if_neg cy, if_neg cy]
    by_cases d : v = y
    · rw [if_pos d, if_pos d, if_pos (show u < m.x1 by omega), if_neg (show ¬ u < m.x0 by omega)]
    · rw [if_neg d, if_neg d]
  · rw [if_neg h, if_neg h]
theorem colC_turn (m : R) (G : Img) (c : Nat) (x : Int) : colC m G c x m.y1 = colC m G (c + 1) x m.y0 := by
  funext u v
  unfold colC
  by_cases h : hasR m u v = true
  · have k := (hasR_iff m u v).1 h
    rw [if_pos h, if_pos h]
    by_cases cy : u < x
    · rw [if_pos cy, if_pos cy]
    rw [if_neg cy, if_neg cy]
    by_cases d : u = x
    · rw [if_pos d, if_pos d, if_pos (show v < m.y1 by omega), if_neg (show ¬ v < m.y0 by omega)]
    · rw [if_neg d, if_neg d]
  · rw [if_neg h, if_neg h]
theorem rowC_last (m : R) (G : Img) (y : Int) : rowC m G 4 y m.x0 = upTo m G (y + 1) m.x0 noF := by
  funext u v
  unfold rowC upTo noF
  by_cases h : hasR m u v = true
  · have k := (hasR_iff m u v).1 h
    rw [if_pos h]
    by_cases c : v < y
    · rw [if_pos c, if_pos ⟨h, by omega⟩]
    · rw [if_neg c]
      by_cases d : v = y
      · rw [if_pos d, if_neg (by omega), mixC_four, if_pos ⟨h, by omega⟩]
      · rw [if_neg d, if_neg (by omega)]
  · rw [if_neg h, if_neg (fun k => h k.1)]
theorem colC_last (m : R) (G : Img) (x : Int) : colC m G 4 x m.y0 = upToC m G (x + 1) m.y0 noF := by
  funext u v
  unfold colC upToC noF
  by_cases h : hasR m u v = true
  · have k := (hasR_iff m u v).1 h
    rw [if_pos h]
    by_cases c : u < x
    · rw [if_pos c, if_pos ⟨h, by omega⟩]
    · rw [if_neg c]
      by_cases d : u = x
      · rw [if_pos d, if_neg (by omega), mixC_four, if_pos ⟨h, by omega⟩]
      · rw [if_neg d, if_neg (by omega)]
  · rw [if_neg h, if_neg (fun k => h k.1)]
theorem rowC_at {m : R} {G : Img} {c : Nat} {y x : Int} (h : hasR m x y = true) : rowC m G c y x x y = mixC c (G x y) noP := by
  unfold rowC
  rw [if_pos h, if_neg (by omega), if_pos rfl, if_neg (by omega)]
theorem colC_at {m : R} {G : Img} {c : Nat} {x y : Int} (h : hasR m x y = true) : colC m G c x y x y = mixC c (G x y) noP := by
  unfold colC
  rw [if_pos h, if_neg (by omega), if_pos rfl, if_neg (by omega)]
theorem rowC_next {m : R} {G : Img} {c : Nat} {y x : Int} (h : hasR m x y = true) : putF m (rowC m G c y x) x y (mixC (c + 1) (G x y) noP) = rowC m G c y (x + 1) := by
  funext u v
  unfold putF rowC
  by_cases e : u = x ∧ v = y
  · obtain ⟨rfl, rfl⟩ := e
    rw [if_pos ⟨h, rfl, rfl⟩, if_pos h, if_neg (by omega), if_pos rfl, if_pos (by omega)]
  · rw [if_neg (fun k => e ⟨k.2.1, k.2.2⟩)]
    by_cases hm : hasR m u v = true
    · rw [if_pos hm, if_pos hm]
      by_cases d : v = y
      · rw [if_pos d, if_pos d]
        by_cases d2 : u < x
        · rw [if_pos d2, if_pos (show u < x + 1 by omega)]
        · rw [if_neg d2, if_neg (show ¬ u < x + 1 by omega)]
      · rw [if_neg d, if_neg d]
    · rw [if_neg hm, if_neg hm]
theorem colC_next {m : R} {G : Img} {c : Nat} {x y : Int} (h : hasR m x y = true) : putF m (colC m G c x y) x y (mixC (c + 1) (G x y) noP) = colC m G c x (y + 1) := by
  funext u v
  unfold putF colC
  by_cases e : u = x ∧ v = y
  · obtain ⟨rfl, rfl⟩ := e
    rw [if_pos ⟨h, rfl, rfl⟩, if_pos h, if_neg (by omega), if_pos rfl, if_pos (by omega)]
  · rw [if_neg (fun k => e ⟨k.2.1, k.2.2⟩)]
    by_cases hm : hasR m u v = true
    · rw [if_pos hm, if_pos hm]
      by_cases d : u = x
      · rw [if_pos d, if_pos d]
        by_cases d2 : v < y
        · rw [if_pos d2, if_pos (show v < y + 1 by omega)]
        · rw [if_neg d2, if_neg (show ¬ v < y + 1 by omega)]
      · rw [if_neg d, if_neg d]
    · rw [if_neg hm, if_neg hm]

/-! The queue: from a head on, where values stand and what they are. -/
structure QInv (f : Nat → Int) (k i : Nat) (q : Nat → Nat × Int) (h n : Nat) : Prop where
  le : h ≤ n
  few : n ≤ i
  item : ∀ j, h ≤ j → j < n → k ≤ (q j).1 ∧ (q j).1 < i ∧ (q j).2 = f (q j).1
  dec : ∀ a b, h ≤ a → a < b → b < n → (q a).1 < (q b).1 ∧ (q b).2 < (q a).2
  cov : ∀ t, k ≤ t → t < i → ∃ j, h ≤ j ∧ j < n ∧ t ≤ (q j).1 ∧ f t ≤ (q j).2
theorem qinv_start (f : Nat → Int) (q : Nat → Nat × Int) : QInv f 0 0 q 0 0 :=
  ⟨Nat.le_refl _, Nat.le_refl _, fun j _ h => absurd h (by omega), fun a b _ _ h => absurd h (by omega), fun t _ h => absurd h (by omega)⟩
def putQ (q : Nat → Nat × Int) (n i : Nat) (v : Int) : Nat → Nat × Int := fun j => if j = n then (i, v) else q j
theorem putQ_at (q : Nat → Nat × Int) (n i : Nat) (v : Int) : putQ q n i v n = (i, v) := by simp [putQ]
theorem putQ_ne {q : Nat → Nat × Int} {n i j : Nat} {v : Int} (h : j ≠ n) : putQ q n i v j = q j := by simp [putQ, h]
theorem QInv.push {f : Nat → Int} {k i : Nat} {q : Nat → Nat × Int} {h n : Nat} (I : QInv f k i q h n) {n' : Nat} (h1 : h ≤ n') (h2 : n' ≤ n) (h3 : ∀ j, n' ≤ j → j < n → (q j).2 ≤ f i) (h4 : n' = h ∨ f i < (q (n' - 1)).2) (hk : k ≤ i) : QInv f k (i + 1) (putQ q n' i (f i)) h (n' + 1) := by
  have hfew := I.few
  refine ⟨by omega, by omega, fun j hj hn => ?_, fun a b ha hab hb => ?_, fun t hk1 hk2 => ?_⟩
  · by_cases e : j = n'
    · subst e; rw [putQ_at]; exact ⟨hk, by simp only; omega, rfl⟩
    · rw [putQ_ne e]
      have := I.item j hj (by omega)
      exact ⟨this.1, by omega, this.2.2⟩
  · by_cases e : b = n'
    · subst e
      rw [putQ_at, putQ_ne (by omega)]
      have ia := I.item a ha (by omega)
      refine ⟨ia.2.1, ?_⟩
      rcases h4 with h4 | h4
      · omega
      · by_cases ea : a = b - 1
        · rw [ea]; exact h4
        · have := (I.dec a (b - 1) ha (by omega) (by omega)).2
          simp only
          omega
    · rw [putQ_ne e, putQ_ne (by omega)]
      exact I.dec a b ha hab (by omega)
  · by_cases e : t = i
    · subst e
      exact ⟨n', h1, by omega, by rw [putQ_at]; exact Nat.le_refl _, by rw [putQ_at]; exact Int.le_refl _⟩
    · obtain ⟨j, hj1, hj2, hj3, hj4⟩ := I.cov t hk1 (by omega)
      by_cases ej : j < n'
      · exact ⟨j, hj1, by omega, by rw [putQ_ne (by omega)]; exact hj3, by rw [putQ_ne (by omega)]; exact hj4⟩
      · have := h3 j (by omega) hj2
        exact ⟨n', h1, by omega, by rw [putQ_at]; simp only; omega, by rw [putQ_at]; simp only; omega⟩
theorem QInv.leave {f : Nat → Int} {k i : Nat} {q : Nat → Nat × Int} {h n : Nat} (I : QInv f k i q h n) {k' h' : Nat} (hk : k ≤ k') (h1 : h ≤ h') (h2 : h' ≤ n) (h3 : ∀ j, h ≤ j → j < h' → (q j).1 < k') (h4 : h' = n ∨ k' ≤ (q h').1) : QInv f k' i q h' n := by
  refine ⟨h2, I.few, fun j hj hn => ?_, fun a b ha hab hb => I.dec a b (by omega) hab hb, fun t hk1 hk2 => ?_⟩
  · have hi := I.item j (by omega) hn
    refine ⟨?_, hi.2⟩
    rcases h4 with h4 | h4
    · omega
    · by_cases e : j = h'
      · rw [e]; exact h4
      · have := (I.dec h' j h1 (by omega) hn).1
        omega
  · obtain ⟨j, hj1, hj2, hj3, hj4⟩ := I.cov t (by omega) hk2
    refine ⟨j, ?_, hj2, hj3, hj4⟩
    rcases Nat.lt_or_ge j h' with hlt | hge
    · have := h3 j hj1 hlt
      omega
    · exact hge
/-- The first is the greatest. -/
theorem QInv.first {f : Nat → Int} {k i : Nat} {q : Nat → Nat × Int} {h n : Nat} (I : QInv f k i q h n) (hf : ∀ t, 0 ≤ f t) (hk : k < i) : h < n ∧ (q h).2 = mxW (fun t => f t.toNat) k (i - k) := by
  obtain ⟨j0, h0, h1, -, -⟩ := I.cov k (Nat.le_refl _) hk
  refine ⟨by omega, ?_⟩
  obtain ⟨i1, i2, i3⟩ := I.item h (Nat.le_refl _) (by omega)
  refine (mxW_of (fun _ => hf _) (fun t ht => ?_) ((q h).1 - k) (by omega) ?_).symm
  · obtain ⟨j, hj1, hj2, hj3, hj4⟩ := I.cov (k + t) (by omega) (by omega)
    have e : ((k : Int) + (t : Int)).toNat = k + t := by omega
    show f ((k : Int) + (t : Int)).toNat ≤ _
    rw [e]
    by_cases ej : j = h
    · rw [← ej]; exact hj4
    · have := (I.dec h j (Nat.le_refl _) (by omega) hj2).2
      omega
  · have e : ((k : Int) + (((q h).1 - k : Nat) : Int)).toNat = (q h).1 := by omega
    show (q h).2 = f ((k : Int) + (((q h).1 - k : Nat) : Int)).toNat
    rw [e]; exact i3
end Go.Proofs.Ytbpcpndiohlchaa
