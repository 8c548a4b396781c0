/- Buffers in a row, laid one on top of the other: plain facts, and what a slice of buffers is. -/
import Derived.Test.YticeoppldlhehaaMoveO
namespace Go.Proofs.Yticeoppldlhehaa
open Go.RowKit
set_option linter.unusedVariables false

/-- A buffer that came in. -/
structure Bf where
  r : R
  a : Option Addr
  len : Nat
  cap : Nat
  f : Nat → P4
/-- A row of buffers, as it came in. -/
structure IsBufs (w : World) (a : Option Addr) (len cap : Nat) (g : Nat → Bf) : Prop where
  le : len ≤ cap
  most : cap ≤ 9223372036854775807
  pix : ∀ i, i < len → IsPix w (g i).a (g i).len (g i).cap (g i).f
  cells : 0 < len → ∃ b off, a = some ⟨b, off, none⟩ ∧ b < w.heap.size ∧ ∀ i, i < len → w.cell? ⟨b, off + i * 5, none⟩ = some (.int .i64 (g i).r.x0) ∧ w.cell? ⟨b, off + i * 5 + 1, none⟩ = some (.int .i64 (g i).r.y0) ∧ w.cell? ⟨b, off + i * 5 + 2, none⟩ = some (.int .i64 (g i).r.x1) ∧ w.cell? ⟨b, off + i * 5 + 3, none⟩ = some (.int .i64 (g i).r.y1) ∧ w.cell? ⟨b, off + i * 5 + 4, none⟩ = some (.slice (g i).a (g i).len (g i).cap)
section
variable {w w' : World} {a : Option Addr} {len cap : Nat} {g : Nat → Bf}
theorem IsBufs.keep (h : IsBufs w a len cap g) (hs : w.heap.size ≤ w'.heap.size) (hk : ∀ k, k < w.heap.size → w'.heap[k]? = w.heap[k]?) : IsBufs w' a len cap g :=
  ⟨h.le, h.most, fun i hi => (h.pix i hi).keep hs (fun _ x _ hx => hk _ hx), fun h0 => by
    obtain ⟨b, off, rfl, hb, hc⟩ := h.cells h0
    refine ⟨b, off, rfl, by omega, fun i hi => ?_⟩
    have e : ∀ c, w'.cell? ⟨b, c, none⟩ = w.cell? ⟨b, c, none⟩ := fun c => World.cell?_of_block (a := ⟨b, c, none⟩) (hk b hb)
    rw [e, e, e, e, e]
    exact hc i hi⟩
theorem IsBufs.grows (h : IsBufs w a len cap g) (hg : Grows w w') : IsBufs w' a len cap g := h.keep hg.below.size fun k hk => hg.below.block k hk
theorem IsBufs.nil (w : World) (g : Nat → Bf) : IsBufs w none 0 0 g := ⟨by omega, by omega, fun i hi => by omega, fun h => by omega⟩
theorem IsBufs.at (h : IsBufs w a len cap g) {k : Nat} (hk : k < len) : ∃ b off, a = some ⟨b, off, none⟩ ∧ b < w.heap.size ∧ w.cell? ⟨b, off + k * 5, none⟩ = some (.int .i64 (g k).r.x0) ∧ w.cell? ⟨b, off + k * 5 + 1, none⟩ = some (.int .i64 (g k).r.y0) ∧ w.cell? ⟨b, off + k * 5 + 2, none⟩ = some (.int .i64 (g k).r.x1) ∧ w.cell? ⟨b, off + k * 5 + 3, none⟩ = some (.int .i64 (g k).r.y1) ∧ w.cell? ⟨b, off + k * 5 + 4, none⟩ = some (.slice (g k).a (g k).len (g k).cap) := by
  obtain ⟨b, off, rfl, hb, hc⟩ := h.cells (by omega)
  obtain ⟨c0, c1, c2, c3, c4⟩ := hc k hk
  exact ⟨b, off, rfl, hb, c0, c1, c2, c3, c4⟩
end

/-- So many laid one on top of the other. -/
def mergeF (b : R) (F : Nat → Img) : Nat → Img
  | 0 => noF
  | k + 1 => cutF b (overF (F k) (mergeF b F k))
theorem mergeF_ok (b : R) (F : Nat → Img) : ∀ k x y, okP (mergeF b F k x y)
  | 0, x, y => okP_no
  | k + 1, x, y => cutF_ok (fun x y => overF_ok _ _ x y) _ x y
theorem merge_fits (b : R) (F : Nat → Img) : ∀ k, Fits b (mergeF b F k)
  | 0 => fits_no b
  | k + 1 => Fits.cut (s := b) (fun x y _ => overF_ok _ _ x y)
theorem upTo_put {g m : R} {G F : Img} {y x : Int} (hg : hasR g x y = true) (h : hasR m x y = true) : putF g (upTo m G y x F) x y (G x y) = upTo m G y (x + 1) F := by
  rw [← upTo_next h]
  funext u v
  unfold putF
  by_cases c : u = x ∧ v = y
  · obtain ⟨rfl, rfl⟩ := c
    rw [if_pos ⟨hg, rfl, rfl⟩, if_pos ⟨h, rfl, rfl⟩]
  · rw [if_neg (fun k => c ⟨k.2.1, k.2.2⟩), if_neg (fun k => c ⟨k.2.1, k.2.2⟩)]
theorem upTo_at {m : R} {G F : Img} {y x : Int} : upTo m G y x F x y = F x y := by
  unfold upTo
  rw [if_neg (fun k => by omega)]
/-- Laid where they meet, it is laid everywhere: elsewhere there is nothing. -/
theorem merge_last {b r : R} {F G : Img} (hF : Fits r F) (hG : Fits b G) : upTo (meetR b r) (overF F G) (meetR b r).y1 (meetR b r).x0 G = cutF b (overF F G) := by
  funext u v
  unfold upTo
  by_cases h : hasR (meetR b r) u v = true
  · have k := (hasR_iff _ _ _).1 h
    rw [if_pos ⟨h, by omega⟩]
    rw [has_meet] at h
    rw [cutF_in (by revert h; cases hasR b u v <;> simp)]
  · rw [if_neg (fun k => h k.1)]
    rw [has_meet] at h
    cases hb : hasR b u v
    · rw [cutF_out hb]
      exact hG.out u v hb
    · rw [cutF_in hb]
      have hr : hasR r u v = false := by revert h; rw [hb]; cases hasR r u v <;> simp
      unfold overF
      rw [hF.out u v hr]
      exact (compP_none_top 0 (G u v) (.inl rfl) (hG.ok u v)).symm
theorem merge_fits_upTo {b r : R} {F G : Img} (hG : Fits b G) (y x : Int) : Fits b (upTo (meetR b r) (overF F G) y x G) := by
  have e : upTo (meetR b r) (overF F G) y x G = cutF b (upTo (meetR b r) (overF F G) y x G) := by
    funext u v
    cases hb : hasR b u v
    · rw [cutF_out hb]
      unfold upTo
      rw [if_neg (fun k => by have := k.1; rw [has_meet, hb] at this; simp at this)]
      exact hG.out u v hb
    · rw [cutF_in hb]
  rw [e]
  refine Fits.cut (s := b) (fun x y _ => ?_)
  unfold upTo
  split
  · exact overF_ok _ _ _ _
  · exact hG.ok _ _

/-- What holds while they are laid. -/
structure MgSt (w wr : World) (nr no : Nat) (g : R) (a : Option Addr) (len cap : Nat) (G : Img) : Prop where
  rb : Blk wr nr 26 #[.int .i64 0, .int .i64 0, .int .i64 0, .int .i64 0, .slice none 0 0]
  ob : Blk wr no 26 #[.int .i64 g.x0, .int .i64 g.y0, .int .i64 g.x1, .int .i64 g.y1, .slice a len cap]
  gr : Grows w wr
  buf : BufAt wr g a len cap G
  open_ : Open wr a
section
variable {w wr w' : World} {nr no : Nat} {g : R} {a : Option Addr} {len cap : Nat} {G G' : Img}
theorem MgSt.grows (s : MgSt w wr nr no g a len cap G) (k : Grows wr w') : MgSt w w' nr no g a len cap G :=
  ⟨s.rb.grows k, s.ob.grows k, s.gr.trans k, s.buf.grows k, s.open_.grows k⟩
theorem MgSt.step (s : MgSt w wr nr no g a len cap G) (ha : ∀ k, blkOf a = some k → w.heap.size ≤ k ∧ k ≠ nr ∧ k ≠ no) (g1 : wr.grownBy w' (blkOf a)) (b1 : BufAt w' g a len cap G') (o1 : Open w' a) : MgSt w w' nr no g a len cap G' :=
  ⟨s.rb.grown g1 (fun e => (ha _ e.symm).2.1 rfl), s.ob.grown g1 (fun e => (ha _ e.symm).2.2 rfl), s.gr.grown g1 (fun k hk => (ha k hk).1), b1, o1⟩
end
end Go.Proofs.Yticeoppldlhehaa
