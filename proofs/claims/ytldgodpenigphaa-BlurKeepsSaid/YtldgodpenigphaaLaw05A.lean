/- What the walks of chapter 5's laws share. -/
import Derived.Test.YtldgodpenigphaaAwake5
import Derived.Test.YtldgodpenigphaaRas5
import Derived.Test.YtldgodpenigphaaRef5F
import Derived.Test.YtldgodpenigphaaRef5S
import Derived.Test.YtldgodpenigphaaCopied
namespace Go.Proofs.Ytldgodpenigphaa
open Go.RowKit
set_option linter.unusedVariables false

theorem law05_rightIs (r : R) (a : Option Addr) (len cap : Nat) (w : World) (b : Bool) (hl : len ≤ cap) (hm : cap ≤ 9223372036854775807) (h : Hid ((decide (len ≤ 2000) && bufB r len) = b)) :
    Calls Try.prog 12 #[.agg #[.int .i64 r.x0, .int .i64 r.y0, .int .i64 r.x1, .int .i64 r.y1, .slice a len cap]] w fun e w' => e = .returned (.bool b) ∧ Grows w w' := by
  have := law05_right r a len cap w hl hm
  rwa [h.out] at this
theorem ref03_nearIs (n : Int) (w : World) (b : Bool) (h : nearN n = b) : Calls Try.prog 14 #[.int .i64 n] w fun e w' => e = .returned (.bool b) ∧ w = w' := by
  have := ref03_near n w
  rwa [h] at this
theorem ref05_LittleIs (r : R) (n : Int) (w : World) (b : Bool) (h : littleB r n = b) : Calls Try.prog 21 #[.agg #[.int .i64 r.x0, .int .i64 r.y0, .int .i64 r.x1, .int .i64 r.y1], .int .i64 n] w fun e w' => e = .returned (.bool b) ∧ Grows w w' := by
  have := ref05_Little r n w
  rwa [h] at this
theorem cnt_little {r : R} {n : Int} (h : littleB r n = true) (hn : n ≤ 30000000000000) : rightR r = true ∧ (cntR (someR r) : Int) ≤ n := by
  unfold littleB at h
  simp at h
  have hg := good_some h.1
  refine ⟨h.1, ?_⟩
  have := hg.area (by rw [areaR_some]; omega)
  rw [areaR_some] at this
  omega

theorem bool_yes {b : Bool} (h : ¬ b = false) : b = true := by cases b <;> simp_all
/-- A buffer that was there before is kept where newer blocks are written. -/
theorem BufAt.farR {w0 w w' : World} {row : Option Nat} {r : R} {a : Option Addr} {len cap : Nat} {F : Img} (h0 : BufAt w0 r a len cap F) (h : BufAt w r a len cap F) (g : w.grownBy w' row) (ho : ∀ k, row = some k → w0.heap.size ≤ k) : BufAt w' r a len cap F := by
  refine h.grown g (fun hl x hx e => ?_)
  obtain ⟨b, off, rfl, hb, -⟩ := h0.pix.cells hl
  cases hx
  have := ho _ e.symm
  simp at this
  omega
theorem blkOf_some_iff {a : Option Addr} {k : Nat} (h : blkOf a = some k) : ∃ x, a = some x ∧ x.block = k := by
  cases a with
  | none => cases h
  | some x => exact ⟨x, rfl, by injection h⟩

end Go.Proofs.Ytldgodpenigphaa
