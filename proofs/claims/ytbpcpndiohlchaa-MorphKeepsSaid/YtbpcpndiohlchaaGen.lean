/- What walks over buffers share: grown rectangles, images cut, a buffer answered out of a variable. -/
import Derived.Test.YtbpcpndiohlchaaRas2
import Derived.Test.YtbpcpndiohlchaaRef3G
namespace Go.Proofs.Ytbpcpndiohlchaa
open Go.RowKit
set_option linter.unusedVariables false

theorem GoodR.some_eq {r : R} (h : GoodR r) : someR r = r := by
  unfold someR
  split
  · rename_i he; exact (h.zero he).symm
  · rfl
theorem grow_nought {b : R} (h : rightR b = true) : growR b 0 0 0 0 = someR b := by
  obtain ⟨h0, h1, h2, h3⟩ := (rightR_iff b).1 h
  unfold growR
  split
  · rename_i he; simp [someR, he]
  · unfold wholeR
    rw [Int.sub_zero, Int.sub_zero, Int.add_zero, Int.add_zero, cutN_in _ h0, cutN_in _ h1, cutN_in _ h2, cutN_in _ h3]
theorem cut_cut (r : R) (F : Img) : cutF r (cutF r F) = cutF r F := by
  funext x y
  unfold cutF
  split <;> simp_all
theorem cutF_ok {F : Img} (h : ∀ x y, okP (F x y)) (r : R) (x y : Int) : okP (cutF r F x y) := by
  unfold cutF
  split
  · exact h x y
  · exact okP_no

theorem rect_growR (b : R) (l u r d : Int) (w : World) (h : rightR b = true) (hl : 0 ≤ l ∧ l ≤ 1000000) (hu : 0 ≤ u ∧ u ≤ 1000000) (hr : 0 ≤ r ∧ r ≤ 1000000) (hd : 0 ≤ d ∧ d ≤ 1000000) :
    Calls Try.prog 33 #[.agg #[.int .i64 b.x0, .int .i64 b.y0, .int .i64 b.x1, .int .i64 b.y1], .int .i64 l, .int .i64 u, .int .i64 r, .int .i64 d] w fun e w' => e = .returned (.agg #[.int .i64 (growR b l u r d).x0, .int .i64 (growR b l u r d).y0, .int .i64 (growR b l u r d).x1, .int .i64 (growR b l u r d).y1]) ∧ Grows w w' := by
  obtain ⟨h0, h1, h2, h3⟩ := (rightR_iff b).1 h
  exact rect_grow b.x0 b.y0 b.x1 b.y1 l u r d w (by omega) (by omega) (by omega) (by omega) (by omega) (by omega) (by omega) (by omega)

/-- A buffer's value is stored into the result's cell, and answered. -/
theorem ret_cell {w wr : World} {n : Nat} {s : R} {a : Option Addr} {len cap : Nat} {G : Img} (hb : BufAt wr s a len cap G) (ho : Open wr a) (gr : Grows w wr) (hn : w.heap.size ≤ n) (hne : ∀ k, blkOf a = some k → w.heap.size ≤ k ∧ k ≠ n) (v0 v1 v2 v3 v4 : Value) :
    Grows w (((((wr.setCell ⟨n, 0, none⟩ v0).setCell ⟨n, 1, none⟩ v1).setCell ⟨n, 2, none⟩ v2).setCell ⟨n, 3, none⟩ v3).setCell ⟨n, 4, none⟩ v4) ∧
    Hid (BufAt (((((wr.setCell ⟨n, 0, none⟩ v0).setCell ⟨n, 1, none⟩ v1).setCell ⟨n, 2, none⟩ v2).setCell ⟨n, 3, none⟩ v3).setCell ⟨n, 4, none⟩ v4) s a len cap G ∧
      Open (((((wr.setCell ⟨n, 0, none⟩ v0).setCell ⟨n, 1, none⟩ v1).setCell ⟨n, 2, none⟩ v2).setCell ⟨n, 3, none⟩ v3).setCell ⟨n, 4, none⟩ v4) a ∧ ∀ x, a = some x → w.heap.size ≤ x.block) := by
  have K : wr.grownBy (((((wr.setCell ⟨n, 0, none⟩ v0).setCell ⟨n, 1, none⟩ v1).setCell ⟨n, 2, none⟩ v2).setCell ⟨n, 3, none⟩ v3).setCell ⟨n, 4, none⟩ v4) (some n) := by
    iterate 4 (refine grownBy_setCell ?_ (.inl rfl) _)
    exact grownBy_setCell (World.grownBy.refl wr _) (.inl rfl) _
  have hx : ∀ x, a = some x → some x.block ≠ some n := fun x hx e => (hne x.block (by rw [hx]; rfl)).2 (by injection e)
  refine ⟨?_, hb.grown K (fun _ => hx), ho.grown K hx, fun x hx => (hne x.block (by rw [hx]; rfl)).1⟩
  iterate 4 (refine Grows.setCell ?_ hn _)
  exact gr.setCell hn _
theorem GoodR.width {r : R} (h : GoodR r) {n : Nat} (hn : cntR r ≤ n) : (0 ≤ r.x1 - r.x0 ∧ r.x1 - r.x0 ≤ n) ∧ (0 ≤ r.y1 - r.y0 ∧ r.y1 - r.y0 ≤ n) := by
  have hle := h.le
  have hc := h.cnt
  refine ⟨⟨by omega, ?_⟩, by omega, ?_⟩
  · by_cases e : r.y1 - r.y0 = 0
    · have he : emptyR r = true := (emptyR_iff r).2 (by omega)
      rw [h.zero he]; simp [zeroR]
    · have : (r.x1 - r.x0) * 1 ≤ (r.x1 - r.x0) * (r.y1 - r.y0) := Int.mul_le_mul_of_nonneg_left (by omega) (by omega)
      omega
  · by_cases e : r.x1 - r.x0 = 0
    · have he : emptyR r = true := (emptyR_iff r).2 (by omega)
      rw [h.zero he]; simp [zeroR]
    · have : 1 * (r.y1 - r.y0) ≤ (r.x1 - r.x0) * (r.y1 - r.y0) := Int.mul_le_mul_of_nonneg_right (by omega) (by omega)
      omega
end Go.Proofs.Ytbpcpndiohlchaa
