/- What the walks of laws share: a buffer of one pixel; literals; what is little. -/
import Derived.Test.YtklcmlbkhjcaiaaDoorBlurB
import Derived.Test.YtklcmlbkhjcaiaaDoorK5
import Derived.Test.YtklcmlbkhjcaiaaDoorK14




namespace Go.Proofs.YtklcmlbkhjcaiaaDoor
open Go.RowKit
set_option linter.unusedVariables false

def oneR : R := ⟨0, 0, 1, 1⟩
def oneF (p : P4) : Img := imgOf oneR (fun _ => p)
theorem good_one : GoodR oneR := ⟨by decide, fun h => by cases h⟩
theorem isPix_one {w : World} {n : Nat} {t : TypeId} {p : P4} (hp : okP p) (h : Blk w n t #[.int .u8 p.r, .int .u8 p.g, .int .u8 p.b, .int .u8 p.a]) : IsPix w (some ⟨n, 0, none⟩) 1 1 (fun _ => p) :=
  ⟨Nat.le_refl _, by omega, fun _ _ => hp, fun _ => ⟨n, 0, rfl, h.lt, fun i c hi hc => by
    obtain rfl : i = 0 := by omega
    rw [h.cell]
    match c, hc with
    | 0, _ => rfl
    | 1, _ => rfl
    | 2, _ => rfl
    | 3, _ => rfl⟩⟩

/-! Literals: a rectangle of its last two edges; a slice of one pixel. -/
@[simp, go_sem] theorem build_rect23 (w : World) (k2 k3 : IntKind) (n2 n3 : Int) : (bSem 27 #[(2, .int k2 n2), (3, .int k3 n3)]).run Tryd.prog w = .ok (.agg #[.int .i64 0, .int .i64 0, .int k2 n2, .int k3 n3]) w := by kernel_rfl
def sSem1 (parts : Array (Nat × Value)) : Sem Value := Instr.buildSlice 33 1 parts
@[go_sem ↓] theorem slice_is_one (parts : Array (Nat × Value)) : Instr.buildSlice 33 1 parts = sSem1 parts := rfl
@[simp, go_sem] theorem slice_one (w : World) (n0 n1 n2 n3 : Int) : (sSem1 #[(0, .agg #[.int .u8 n0, .int .u8 n1, .int .u8 n2, .int .u8 n3])]).run Tryd.prog w = .ok (.slice (some ⟨w.heap.size, 0, none⟩) 1 1) (w.alloc (.cells #[.int .u8 n0, .int .u8 n1, .int .u8 n2, .int .u8 n3] 40)) := by kernel_rfl

theorem grow_small {b : R} (hs : smallR b) (ne : emptyR b = false) {l u r d : Int} (hl : 0 ≤ l ∧ l ≤ 255) (hu : 0 ≤ u ∧ u ≤ 255) (hr : 0 ≤ r ∧ r ≤ 255) (hd : 0 ≤ d ∧ d ≤ 255) : growR b l u r d = ⟨b.x0 - l, b.y0 - u, b.x1 + r, b.y1 + d⟩ := by
  have k := (emptyR_not b).1 ne
  unfold smallR at hs
  have e : emptyR (⟨b.x0 - l, b.y0 - u, b.x1 + r, b.y1 + d⟩ : R) = false := (emptyR_not _).2 (by simp only; omega)
  unfold growR
  rw [if_neg (by simp [ne])]
  unfold wholeR
  rw [cutN_in _ (by simp only; omega), cutN_in _ (by simp only; omega), cutN_in _ (by simp only; omega), cutN_in _ (by simp only; omega)]
  unfold someR
  rw [if_neg (by simp [e])]
theorem fine_cnt {b : R} {rx ry n : Int} (h : fineB b rx ry n = true) (hn : n ≤ 30000000000000) : smallR b ∧ (0 ≤ rx ∧ rx ≤ 255) ∧ (0 ≤ ry ∧ ry ≤ 255) ∧ rightR b = true ∧ (cntR (growR b 0 ry 0 ry) : Int) ≤ n ∧ (cntR (someR b) : Int) ≤ n ∧ (cntR (growR b rx ry rx ry) : Int) ≤ n := by
  unfold fineB at h
  rw [Bool.and_eq_true, decide_eq_true_eq, decide_eq_true_eq] at h
  obtain ⟨⟨hx, hy, hs⟩, ha⟩ := h
  refine ⟨hs, hx, hy, hs.right, ?_⟩
  have hg := good_grow b rx ry rx ry
  have hc := hg.area (by omega)
  cases he : emptyR b
  · have k := (emptyR_not b).1 he
    rw [hc] at ha
    have g1 := (good_grow b 0 ry 0 ry).cnt
    have g2 := (good_some hs.right).cnt
    have g3 := hg.cnt
    have e2 : someR b = b := by simp [someR, he]
    rw [e2] at g2 ⊢
    have E1 : growR b rx ry rx ry = ⟨b.x0 - rx, b.y0 - ry, b.x1 + rx, b.y1 + ry⟩ := grow_small hs he (by omega) (by omega) (by omega) (by omega)
    have E2 : growR b 0 ry 0 ry = ⟨b.x0 - 0, b.y0 - ry, b.x1 + 0, b.y1 + ry⟩ := grow_small hs he (by omega) (by omega) (by omega) (by omega)
    rw [E1] at g3 ha ⊢
    rw [E2] at g1 ⊢
    simp only at g1 g3
    have m1 : (b.x1 + 0 - (b.x0 - 0)) * (b.y1 + ry - (b.y0 - ry)) ≤ (b.x1 + rx - (b.x0 - rx)) * (b.y1 + ry - (b.y0 - ry)) := Int.mul_le_mul_of_nonneg_right (by omega) (by omega)
    have m2 : (b.x1 - b.x0) * (b.y1 - b.y0) ≤ (b.x1 + rx - (b.x0 - rx)) * (b.y1 + ry - (b.y0 - ry)) := Int.mul_le_mul (by omega) (by omega) (by omega) (by omega)
    omega
  · have e1 : ∀ l u r d, growR b l u r d = zeroR := fun l u r d => by unfold growR; rw [if_pos he]
    have e2 : someR b = zeroR := by simp [someR, he]
    rw [e1] at ha hc
    rw [e1, e1, e2, cnt_zero]
    rw [cnt_zero] at hc
    omega
theorem bool_yes {b : Bool} (h : ¬ b = false) : b = true := by cases b <;> simp_all
/-- A buffer that was there before is kept where newer blocks are written. -/
theorem BufAt.farR {w0 w w' : World} {row : Option Nat} {r : R} {a : Option Addr} {len cap : Nat} {F : Img} (h0 : BufAt w0 r a len cap F) (h : BufAt w r a len cap F) (g : w.grownBy w' row) (ho : ∀ k, row = some k → w0.heap.size ≤ k) : BufAt w' r a len cap F := by
  refine h.grown g (fun hl x hx e => ?_)
  obtain ⟨b, off, rfl, hb, -⟩ := h0.pix.cells hl
  cases hx
  have := ho _ e.symm
  simp at this
  omega
theorem blkOf_some_iff {a : Option Addr} {k : Nat} (h : blkOf a = some k) : ∃ x, a = some x ∧ x.block = k := by
  cases a with
  | none => cases h
  | some x => exact ⟨x, rfl, by injection h⟩

end Go.Proofs.YtklcmlbkhjcaiaaDoor
