/- Mixing in plain Lean: what the program's operators and modes compute, and what follows. No program in sight. -/
import Derived.Test.YticeoppldlhehaaToneL
import Derived.Test.YticeoppldlhehaaBufL
namespace Go.Proofs.Yticeoppldlhehaa
set_option linter.unusedVariables false

/-- Each of the four is a byte. -/
def P4.Bytes (p : P4) : Prop := (0 ≤ p.r ∧ p.r ≤ 255) ∧ (0 ≤ p.g ∧ p.g ≤ 255) ∧ (0 ≤ p.b ∧ p.b ≤ 255) ∧ (0 ≤ p.a ∧ p.a ≤ 255)
def P4.Right (p : P4) : Prop := p.r ≤ p.a ∧ p.g ≤ p.a ∧ p.b ≤ p.a

/-- A value by an operator. -/
def compV (op a b t u : Int) : Int :=
  if op = 0 then a + mulT b (255 - t) else if op = 1 then mulT a u else if op = 2 then mulT a (255 - u) else if op = 3 then mulT a u + mulT b (255 - t) else if op = 4 then mulT a (255 - u) + mulT b (255 - t) else 0
def compP (op : Int) (p q : P4) : P4 := ⟨cutT (compV op p.r q.r p.a q.a), cutT (compV op p.g q.g p.a q.a), cutT (compV op p.b q.b p.a q.a), cutT (compV op p.a q.a p.a q.a)⟩
def besideV (a b t u : Int) : Int := mulT a (255 - u) + mulT b (255 - t)
/-- A colour by a mode. -/
def colV (m a b t u : Int) : Int :=
  if m = 1 then mulT a b + besideV a b t u else if m = 2 then a + b - mulT a b else if m = 3 then min (mulT a u) (mulT b t) + besideV a b t u else if m = 4 then max (mulT a u) (mulT b t) + besideV a b t u
  else if m = 5 then a + b - 2 * min (mulT a u) (mulT b t) else a + b
def alphaV (m t u : Int) : Int := cutT (if m = 6 then t + u else t + u - mulT t u)
def blendP (m : Int) (p q : P4) : P4 :=
  if m = 0 then compP 0 p q else
    ⟨min (cutT (colV m p.r q.r p.a q.a)) (alphaV m p.a q.a), min (cutT (colV m p.g q.g p.a q.a)) (alphaV m p.a q.a), min (cutT (colV m p.b q.b p.a q.a)) (alphaV m p.a q.a), alphaV m p.a q.a⟩
def scaleP (p : P4) (k : Int) : P4 := ⟨mulT p.r k, mulT p.g k, mulT p.b k, mulT p.a k⟩
def ontoP (m k : Int) (p q : P4) : P4 := blendP m (scaleP p k) q

theorem sub_bd (t : Int) (h : 0 ≤ t ∧ t ≤ 255) : 0 ≤ 255 - t ∧ 255 - t ≤ 255 := by omega
theorem compV_bd (op a b t u : Int) (ha : 0 ≤ a ∧ a ≤ 255) (hb : 0 ≤ b ∧ b ≤ 255) (ht : 0 ≤ t ∧ t ≤ 255) (hu : 0 ≤ u ∧ u ≤ 255) : 0 ≤ compV op a b t u ∧ compV op a b t u ≤ 510 := by
  have h1 := mulT_bd b (255 - t) hb.1 hb.2 (sub_bd t ht).1 (sub_bd t ht).2
  have h2 := mulT_bd a u ha.1 ha.2 hu.1 hu.2
  have h3 := mulT_bd a (255 - u) ha.1 ha.2 (sub_bd u hu).1 (sub_bd u hu).2
  unfold compV
  repeat' split
  all_goals omega
theorem colV_bd (m a b t u : Int) (ha : 0 ≤ a ∧ a ≤ 255) (hb : 0 ≤ b ∧ b ≤ 255) (ht : 0 ≤ t ∧ t ≤ 255) (hu : 0 ≤ u ∧ u ≤ 255) : -1000 ≤ colV m a b t u ∧ colV m a b t u ≤ 1000 := by
  have h1 := mulT_bd b (255 - t) hb.1 hb.2 (sub_bd t ht).1 (sub_bd t ht).2
  have h2 := mulT_bd a u ha.1 ha.2 hu.1 hu.2
  have h3 := mulT_bd a (255 - u) ha.1 ha.2 (sub_bd u hu).1 (sub_bd u hu).2
  have h4 := mulT_bd b t hb.1 hb.2 ht.1 ht.2
  have h5 := mulT_bd a b ha.1 ha.2 hb.1 hb.2
  unfold colV besideV
  repeat' split
  all_goals omega
theorem alphaV_bd (m t u : Int) : 0 ≤ alphaV m t u ∧ alphaV m t u ≤ 255 := cutT_bd _
theorem cutT_mono (a b : Int) (h : a ≤ b) : cutT a ≤ cutT b := by unfold cutT; omega

theorem compV_mono (op a b t u : Int) (ha : a ≤ t) (hb : b ≤ u) (ht : 0 ≤ t ∧ t ≤ 255) (hu : 0 ≤ u ∧ u ≤ 255) : compV op a b t u ≤ compV op t u t u := by
  have h1 := mulT_mono b u (255 - t) hb (sub_bd t ht).1
  have h2 := mulT_mono a t u ha hu.1
  have h3 := mulT_mono a t (255 - u) ha (sub_bd u hu).1
  unfold compV
  repeat' split
  all_goals omega
theorem compP_bytes (op : Int) (p q : P4) : (compP op p q).Bytes := ⟨cutT_bd _, cutT_bd _, cutT_bd _, cutT_bd _⟩
theorem compP_right (op : Int) (p q : P4) (hp : p.Bytes) (hq : q.Bytes) (rp : p.Right) (rq : q.Right) : (compP op p q).Right :=
  ⟨cutT_mono _ _ (compV_mono op _ _ _ _ rp.1 rq.1 hp.2.2.2 hq.2.2.2), cutT_mono _ _ (compV_mono op _ _ _ _ rp.2.1 rq.2.1 hp.2.2.2 hq.2.2.2), cutT_mono _ _ (compV_mono op _ _ _ _ rp.2.2 rq.2.2 hp.2.2.2 hq.2.2.2)⟩
theorem blendP_bytes (m : Int) (p q : P4) : (blendP m p q).Bytes := by
  unfold blendP
  split
  · exact compP_bytes _ _ _
  · have h := alphaV_bd m p.a q.a
    have h1 := cutT_bd (colV m p.r q.r p.a q.a)
    have h2 := cutT_bd (colV m p.g q.g p.a q.a)
    have h3 := cutT_bd (colV m p.b q.b p.a q.a)
    exact ⟨by simp only; omega, by simp only; omega, by simp only; omega, h⟩
theorem blendP_right (m : Int) (p q : P4) (hp : p.Bytes) (hq : q.Bytes) (rp : p.Right) (rq : q.Right) : (blendP m p q).Right := by
  unfold blendP
  split
  · exact compP_right _ _ _ hp hq rp rq
  · exact ⟨by simp only; omega, by simp only; omega, by simp only; omega⟩
theorem scaleP_bytes (p : P4) (k : Int) (hp : p.Bytes) (hk : 0 ≤ k ∧ k ≤ 255) : (scaleP p k).Bytes :=
  ⟨mulT_bd _ _ hp.1.1 hp.1.2 hk.1 hk.2, mulT_bd _ _ hp.2.1.1 hp.2.1.2 hk.1 hk.2, mulT_bd _ _ hp.2.2.1.1 hp.2.2.1.2 hk.1 hk.2, mulT_bd _ _ hp.2.2.2.1 hp.2.2.2.2 hk.1 hk.2⟩
theorem scaleP_right (p : P4) (k : Int) (hk : 0 ≤ k) (rp : p.Right) : (scaleP p k).Right := ⟨mulT_mono _ _ _ rp.1 hk, mulT_mono _ _ _ rp.2.1 hk, mulT_mono _ _ _ rp.2.2 hk⟩

theorem mulT_0l (a : Int) : mulT 0 a = 0 := by rw [mulT_comm, mulT_0]
theorem mulT_255l (a : Int) : mulT 255 a = a := by rw [mulT_comm, mulT_255]

/-- Nothing on top, or beneath. -/
theorem comp_none_top (op a t : Int) (h : op = 0 ∨ op = 3 ∨ op = 4) (ha : 0 ≤ a ∧ a ≤ 255) : cutT (compV op 0 a 0 t) = a := by
  have e : compV op 0 a 0 t = a := by
    unfold compV
    rcases h with rfl | rfl | rfl <;> simp [mulT_0l, mulT_255]
  rw [e]; exact cutT_in a ha.1 ha.2
theorem comp_none_gone (op a t : Int) (h : op = 1 ∨ op = 2 ∨ op = 5) : cutT (compV op 0 a 0 t) = 0 := by
  have e : compV op 0 a 0 t = 0 := by
    unfold compV
    rcases h with rfl | rfl | rfl <;> simp [mulT_0l]
  rw [e]; decide
theorem comp_none_under (op a t : Int) (h : op = 0 ∨ op = 4) (ha : 0 ≤ a ∧ a ≤ 255) : cutT (compV op a 0 t 0) = a := by
  have e : compV op a 0 t 0 = a := by
    unfold compV
    rcases h with rfl | rfl <;> simp [mulT_0l, mulT_255]
  rw [e]; exact cutT_in a ha.1 ha.2
theorem col_none_top (m b u : Int) : colV m 0 b 0 u = b := by
  unfold colV besideV
  simp only [mulT_0l, mulT_0, Int.sub_zero, mulT_255]
  repeat' split
  all_goals omega
theorem col_none_under (m a t : Int) : colV m a 0 t 0 = a := by
  unfold colV besideV
  simp only [mulT_0l, mulT_0, Int.sub_zero, mulT_255]
  repeat' split
  all_goals omega
theorem alpha_none_top (m u : Int) (h : 0 ≤ u ∧ u ≤ 255) : alphaV m 0 u = u := by
  unfold alphaV
  rw [mulT_0l]
  split <;> (rw [show (0 : Int) + u = u from by omega]; try rw [Int.sub_zero]) <;> exact cutT_in u h.1 h.2
theorem alpha_none_under (m t : Int) (h : 0 ≤ t ∧ t ≤ 255) : alphaV m t 0 = t := by
  unfold alphaV
  rw [mulT_0]
  split <;> (rw [show t + (0 : Int) = t from by omega]; try rw [Int.sub_zero]) <;> exact cutT_in t h.1 h.2
theorem blend_none_top (m : Int) (p : P4) (hp : p.Bytes) (rp : p.Right) : blendP m ⟨0, 0, 0, 0⟩ p = p := by
  obtain ⟨r, g, b, a⟩ := p
  obtain ⟨h1, h2, h3, h4⟩ := hp
  obtain ⟨k1, k2, k3⟩ := rp
  simp only at *
  unfold blendP
  split
  · simp only [compP, comp_none_top 0 _ _ (.inl rfl) h1, comp_none_top 0 _ _ (.inl rfl) h2, comp_none_top 0 _ _ (.inl rfl) h3, comp_none_top 0 _ _ (.inl rfl) h4]
  · simp only [col_none_top, alpha_none_top m a h4, cutT_in r h1.1 h1.2, cutT_in g h2.1 h2.2, cutT_in b h3.1 h3.2, Int.min_eq_left k1, Int.min_eq_left k2, Int.min_eq_left k3]
theorem blend_none_under (m : Int) (p : P4) (hp : p.Bytes) (rp : p.Right) : blendP m p ⟨0, 0, 0, 0⟩ = p := by
  obtain ⟨r, g, b, a⟩ := p
  obtain ⟨h1, h2, h3, h4⟩ := hp
  obtain ⟨k1, k2, k3⟩ := rp
  simp only at *
  unfold blendP
  split
  · simp only [compP, comp_none_under 0 _ _ (.inl rfl) h1, comp_none_under 0 _ _ (.inl rfl) h2, comp_none_under 0 _ _ (.inl rfl) h3, comp_none_under 0 _ _ (.inl rfl) h4]
  · simp only [col_none_under, alpha_none_under m a h4, cutT_in r h1.1 h1.2, cutT_in g h2.1 h2.2, cutT_in b h3.1 h3.2, Int.min_eq_left k1, Int.min_eq_left k2, Int.min_eq_left k3]
theorem compP_none_top (op : Int) (p : P4) (h : op = 0 ∨ op = 3 ∨ op = 4) (hp : p.Bytes) : compP op ⟨0, 0, 0, 0⟩ p = p := by
  unfold compP
  simp only [comp_none_top op _ _ h hp.1, comp_none_top op _ _ h hp.2.1, comp_none_top op _ _ h hp.2.2.1, comp_none_top op _ _ h hp.2.2.2]
theorem compP_none_gone (op : Int) (p : P4) (h : op = 1 ∨ op = 2 ∨ op = 5) : compP op ⟨0, 0, 0, 0⟩ p = ⟨0, 0, 0, 0⟩ := by
  unfold compP
  simp only [comp_none_gone op _ _ h]
theorem compP_none_under (op : Int) (p : P4) (h : op = 0 ∨ op = 4) (hp : p.Bytes) : compP op p ⟨0, 0, 0, 0⟩ = p := by
  unfold compP
  simp only [comp_none_under op _ _ h hp.1, comp_none_under op _ _ h hp.2.1, comp_none_under op _ _ h hp.2.2.1, comp_none_under op _ _ h hp.2.2.2]
theorem compP_clear (p q : P4) : compP 5 p q = ⟨0, 0, 0, 0⟩ := by
  have h : cutT 0 = 0 := by decide
  simp [compP, compV, h]

/-- Which is on top makes no difference. -/
theorem col_turned (m a b t u : Int) : colV m a b t u = colV m b a u t := by
  unfold colV besideV
  rw [mulT_comm b a]
  repeat' split
  all_goals omega
theorem alpha_turned (m t u : Int) : alphaV m t u = alphaV m u t := by
  unfold alphaV
  rw [mulT_comm u t, Int.add_comm u t]
theorem blend_turned (m : Int) (p q : P4) (hm : m ≠ 0) : blendP m p q = blendP m q p := by
  unfold blendP
  rw [if_neg hm, if_neg hm, col_turned m p.r, col_turned m p.g, col_turned m p.b, alpha_turned m p.a]
theorem xor_turned (p q : P4) : compP 4 p q = compP 4 q p := by
  have h : ∀ a b t u : Int, compV 4 a b t u = compV 4 b a u t := fun a b t u => by
    simp only [compV]
    simp
    omega
  unfold compP
  rw [h p.r, h p.g, h p.b, h p.a]

/-- Full alpha. -/
theorem over_full (p q : P4) (hp : p.Bytes) (h : p.a = 255) : compP 0 p q = p := by
  obtain ⟨r, g, b, a⟩ := p
  obtain ⟨h1, h2, h3, h4⟩ := hp
  simp only at *
  subst h
  have e : ∀ x y u : Int, (0 ≤ x ∧ x ≤ 255) → cutT (compV 0 x y 255 u) = x := fun x y u hx => by
    have : compV 0 x y 255 u = x := by simp [compV, mulT_0]
    rw [this]; exact cutT_in x hx.1 hx.2
  simp only [compP, e _ _ _ h1, e _ _ _ h2, e _ _ _ h3, e _ _ _ h4]
theorem blend_full_under (m : Int) (p q : P4) (hp : p.Bytes) (hq : q.Bytes) (h : q.a = 255) : (blendP m p q).a = 255 := by
  have h4 := hp.2.2.2
  unfold blendP
  split
  · simp only [compP, h, compV, if_true, mulT_255l]
    unfold cutT; omega
  · simp only [alphaV, h, mulT_255]
    split <;> (unfold cutT; omega)
theorem blend_full_top (m : Int) (p q : P4) (hp : p.Bytes) (hq : q.Bytes) (h : p.a = 255) : (blendP m p q).a = 255 := by
  have h4 := hq.2.2.2
  unfold blendP
  split
  · simp only [compP, h, compV, if_true]
    simp only [Int.sub_self, mulT_0]
    decide
  · simp only [alphaV, h, mulT_255l]
    split <;> (unfold cutT; omega)
end Go.Proofs.Yticeoppldlhehaa
