/- Arguments opened: pixels (arrays of four bytes) and rectangles (structs of four numbers) by value. -/
import Derived.Test.YticeoppldlhehaaRows
import Derived.Test.YticeoppldlhehaaWorld
import Derived.ProofKit
import Derived.OpenShut
import Derived.ShutString
import Derived.ChangeOld
import Derived.Lib.SmallJoins
namespace Go.Proofs.Yticeoppldlhehaa
open Go.ChangeShapes Go.WideShapes Go.ChangeAt Go.RowKit Go.Joins Go.Deep
set_option linter.unusedVariables false

theorem own : ownKnob Try.prog.godebug = none := by kernel_rfl
theorem laidOut : laidOutB Try.prog = true := by kernel_rfl

theorem array4_of {α : Type} {cs : Array α} (h : cs.size = 4) : ∃ c0 c1 c2 c3, cs = #[c0, c1, c2, c3] := Go.Joins.array4 h

section
variable {H : Type} {enc : TypeId × Value → H} {P : Program} {w : World} {base : Nat} {spare : Nat → Bool} {held : Bool}

theorem okWide_array {r : Reach} {b0 : Nat} {t e : TypeId} {n : Nat} {v : Value} (ht : P.underlying t = some (.array n e)) (h : Value.okWide P w r b0 t v) : ∃ cs, v = .agg cs ∧ cs.size = P.cellsOf t := by
  simp only [Value.okWide, ht] at h
  obtain ⟨cs, h1, h2, _⟩ := h
  exact ⟨cs, h1, h2⟩

/-- The cells of a pixel that reads. -/
theorem trod_px {t e : TypeId} {fuel : Nat} {c0 c1 c2 c3 : Value} {x : DataW H × List MemPlace} (ht : P.underlying t = some (.array 4 e)) (he : P.underlying e = some (.int .u8)) (hce : P.cellsOf e = 1)
    (h : DataW.trod enc P w base spare held fuel t [c0, c1, c2, c3] = some x) :
    ∃ r g b a : Int, c0 = .int .u8 r ∧ c1 = .int .u8 g ∧ c2 = .int .u8 b ∧ c3 = .int .u8 a ∧ (0 ≤ r ∧ r ≤ 255) ∧ (0 ≤ g ∧ g ≤ 255) ∧ (0 ≤ b ∧ b ≤ 255) ∧ (0 ≤ a ∧ a ≤ 255) := by
  obtain ⟨y0, y1, y2, y3, n, _, h0, h1, h2, h3⟩ := trod_array4 ht hce h
  obtain ⟨r, e0, _, w0⟩ := DataW.trod_int he h0
  obtain ⟨g, e1, _, w1⟩ := DataW.trod_int he h1
  obtain ⟨b, e2, _, w2⟩ := DataW.trod_int he h2
  obtain ⟨a, e3, _, w3⟩ := DataW.trod_int he h3
  exact ⟨r, g, b, a, by simpa using e0, by simpa using e1, by simpa using e2, by simpa using e3, bounds_u8 w0, bounds_u8 w1, bounds_u8 w2, bounds_u8 w3⟩

theorem open_px {r : Reach} {b0 : Nat} {t e : TypeId} {v : Value} {d : DataW H} {p : List MemPlace} (ht : P.underlying t = some (.array 4 e)) (he : P.underlying e = some (.int .u8)) (hce : P.cellsOf e = 1) (hC : P.cellsOf t = 4)
    (hv : Value.okWide P w r b0 t v) (h : DataW.Trod enc P w base spare held t v d p) :
    ∃ r g b a : Int, v = .agg #[.int .u8 r, .int .u8 g, .int .u8 b, .int .u8 a] ∧ (0 ≤ r ∧ r ≤ 255) ∧ (0 ≤ g ∧ g ≤ 255) ∧ (0 ≤ b ∧ b ≤ 255) ∧ (0 ≤ a ∧ a ≤ 255) := by
  obtain ⟨cs, rfl, hsz⟩ := okWide_array ht hv
  obtain ⟨c0, c1, c2, c3, rfl⟩ := array4_of (hsz.trans hC)
  obtain ⟨fuel, hf⟩ := h
  obtain ⟨r, g, b, a, rfl, rfl, rfl, rfl, k0, k1, k2, k3⟩ := trod_px ht he hce hf
  exact ⟨r, g, b, a, rfl, k0, k1, k2, k3⟩

theorem open_rect {r : Reach} {b0 : Nat} {t : TypeId} {f0 f1 f2 f3 : Field} {v : Value} {d : DataW H} {p : List MemPlace} (ht : P.underlying t = some (.struct #[f0, f1, f2, f3])) (hone : oneCellFields P #[f0, f1, f2, f3] = true) (hC : P.cellsOf t = 4)
    (hk0 : P.underlying f0.type = some (.int .i64)) (hk1 : P.underlying f1.type = some (.int .i64)) (hk2 : P.underlying f2.type = some (.int .i64)) (hk3 : P.underlying f3.type = some (.int .i64))
    (hv : Value.okWide P w r b0 t v) (h : DataW.Trod enc P w base spare held t v d p) :
    ∃ x0 y0 x1 y1 : Int, v = .agg #[.int .i64 x0, .int .i64 y0, .int .i64 x1, .int .i64 y1] ∧ (Lit.int .i64 x0).wf = true ∧ (Lit.int .i64 y0).wf = true ∧ (Lit.int .i64 x1).wf = true ∧ (Lit.int .i64 y1).wf = true := by
  obtain ⟨v0, v1, v2, v3, z0, z1, z2, z3, n, rfl, _, _, h0, h1, h2, h3⟩ := Go.Joins.open_agg4 ht hone hC hv h
  obtain ⟨x0, e0, _, w0⟩ := DataW.trod_int hk0 h0
  obtain ⟨x1, e1, _, w1⟩ := DataW.trod_int hk1 h1
  obtain ⟨x2, e2, _, w2⟩ := DataW.trod_int hk2 h2
  obtain ⟨x3, e3, _, w3⟩ := DataW.trod_int hk3 h3
  simp at e0 e1 e2 e3
  subst e0 e1 e2 e3
  exact ⟨x0, x1, x2, x3, rfl, w0, w1, w2, w3⟩
end

/-- What the walk is told of a slice of integers that came in. -/
def IsRow (k : IntKind) (w : World) (a : Option Addr) (len cap : Nat) (zs : List Int) : Prop :=
  (a = none ∧ len = 0 ∧ cap = 0 ∧ zs = []) ∨
  ∃ x, a = some x ∧ len ≤ cap ∧ cap ≤ maxLen ∧ zs.length = cap ∧ (∀ i, i < zs.length → w.cell? (x.add i) = some (.int k (zs.getD i 0))) ∧ ∀ n ∈ zs, (Lit.int k n).wf = true

theorem i64_wf {n : Int} (h : (Lit.int .i64 n).wf = true) : -9223372036854775808 ≤ n ∧ n ≤ 9223372036854775807 := by
  simp [Lit.wf, IntKind.min, IntKind.max, IntKind.signed, IntKind.bits] at h
  omega
end Go.Proofs.Yticeoppldlhehaa
