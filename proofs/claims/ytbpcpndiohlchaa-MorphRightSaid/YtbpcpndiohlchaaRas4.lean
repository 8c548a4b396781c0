/- The walks of layer 5 (raster), the fourth part: a rectangle copied. -/
import Derived.Test.YtbpcpndiohlchaaRas3
import Derived.Test.YtbpcpndiohlchaaBufC
namespace Go.Proofs.Ytbpcpndiohlchaa
open Go.RowKit
set_option linter.unusedVariables false

theorem zero_px (w : World) : (zeroValue 33).run Try.prog w = .ok (.agg #[.int .u8 0, .int .u8 0, .int .u8 0, .int .u8 0]) w := by kernel_rfl

/-- What holds while a buffer is being copied to. -/
structure CopySt (w wr : World) (o n0 n1 n2 : Nat) (r rf m t : R) (a : Option Addr) (len cap : Nat) (F : Img) (af : Option Addr) (lf cf : Nat) (G : Img) : Prop where
  ob : Blk wr o 26 #[.int .i64 r.x0, .int .i64 r.y0, .int .i64 r.x1, .int .i64 r.y1, .slice a len cap]
  fb : Blk wr n0 26 #[.int .i64 rf.x0, .int .i64 rf.y0, .int .i64 rf.x1, .int .i64 rf.y1, .slice af lf cf]
  mb : Blk wr n1 23 #[.int .i64 m.x0, .int .i64 m.y0, .int .i64 m.x1, .int .i64 m.y1]
  tb : Blk wr n2 23 #[.int .i64 t.x0, .int .i64 t.y0, .int .i64 t.x1, .int .i64 t.y1]
  by_ : w.grownBy wr (blkOf a)
  buf : BufAt wr r a len cap F
  open_ : Open wr a
  src : BufAt wr rf af lf cf G
section
variable {w wr w' : World} {o n0 n1 n2 : Nat} {r rf m t : R} {a af : Option Addr} {len cap lf cf : Nat} {F G : Img}
theorem CopySt.grows (h : CopySt w wr o n0 n1 n2 r rf m t a len cap F af lf cf G) (g : Grows wr w') : CopySt w w' o n0 n1 n2 r rf m t a len cap F af lf cf G :=
  ⟨h.ob.grows g, h.fb.grows g, h.mb.grows g, h.tb.grows g, grownBy_grows h.by_ g, h.buf.grows g, h.open_.grows g, h.src.grows g⟩
theorem CopySt.set {b off : Nat} (h : CopySt w wr o n0 n1 n2 r rf m t (some ⟨b, off, none⟩) len cap F af lf cf G) (ho : b ≠ o) (h0 : b ≠ n0) (h1 : b ≠ n1) (h2 : b ≠ n2) (hf : 0 < lf → ∀ x, af = some x → x.block ≠ b) (K : Img) {x y : Int} (d k : Nat) (hx : hasR r x y = true) (hk : ∀ i : Nat, i < k → hasR r (x + d + i) y = true) (hok : ∀ i : Nat, i < k → okP (K (x + d + i) y)) :
    CopySt w (wr.setCells b (off + (idxR r x y).toNat * 4 + d * 4) (cellsP (fun i => K (x + d + i) y) k)) o n0 n1 n2 r rf m t (some ⟨b, off, none⟩) len cap (rowF F K (x + d) y k) af lf cf G := by
  have g := grownBy_setCells wr b (off + (idxR r x y).toNat * 4 + d * 4) (cellsP (fun i => K (x + d + i) y) k)
  exact ⟨h.ob.grown g (by simpa using fun e => ho e.symm), h.fb.grown g (by simpa using fun e => h0 e.symm), h.mb.grown g (by simpa using fun e => h1 e.symm), h.tb.grown g (by simpa using fun e => h2 e.symm), h.by_.trans g, h.buf.setRowD hx d k hk hok, h.open_.setCells _ _ _, h.src.grown g (fun h0 x hx => by simpa using hf h0 x hx)⟩
end

/-- What two rectangles have in common lies in the first. -/
theorem meet_in (m q : R) (h : GoodR m) : (-4398046511104 ≤ (meetR m q).x0 ∧ (meetR m q).x0 ≤ 4398046511104) ∧ (-4398046511104 ≤ (meetR m q).y0 ∧ (meetR m q).y0 ≤ 4398046511104) ∧ (-4398046511104 ≤ (meetR m q).x1 ∧ (meetR m q).x1 ≤ 4398046511104) ∧ (-4398046511104 ≤ (meetR m q).y1 ∧ (meetR m q).y1 ≤ 4398046511104) := by
  have hb := h.bd
  unfold meetR someR
  split
  · simp [zeroR]
  · rename_i he
    have he' := (emptyR_not _).1 (by simpa using he)
    simp only [mxI_eq, mnI_eq] at he' ⊢
    omega
theorem meet_row_in {m q : R} {v : Int} (h1 : (meetR m q).y0 ≤ v) (h2 : v < (meetR m q).y1) : (meetR m q).x0 < (meetR m q).x1 ∧ m.x0 ≤ (meetR m q).x0 ∧ (meetR m q).x1 ≤ m.x1 ∧ ∀ u, (meetR m q).x0 ≤ u → u < (meetR m q).x1 → hasR (meetR m q) u v = true := by
  have hne : emptyR (meetR m q) = false := by
    cases he : emptyR (meetR m q)
    · rfl
    · unfold meetR at he h1 h2
      rw [emptyR_some] at he
      unfold someR at h1 h2
      rw [if_pos he] at h1 h2
      simp [zeroR] at h1 h2
      omega
  have k := (emptyR_not _).1 hne
  refine ⟨k.1, ?_, ?_, fun u a b => (hasR_iff _ _ _).2 ⟨a, b, h1, h2⟩⟩
  all_goals
    unfold meetR at hne ⊢
    rw [emptyR_some] at hne
    unfold someR
    rw [if_neg (by simp [hne])]
    simp only [mxI_eq, mnI_eq]
    omega
theorem hasR_shift (r : R) (dx dy x y : Int) : hasR ⟨r.x0 + dx, r.y0 + dy, r.x1 + dx, r.y1 + dy⟩ x y = hasR r (x - dx) (y - dy) := by
  rw [Bool.eq_iff_iff, hasR_iff, hasR_iff]
  simp only
  omega

end Go.Proofs.Ytbpcpndiohlchaa
