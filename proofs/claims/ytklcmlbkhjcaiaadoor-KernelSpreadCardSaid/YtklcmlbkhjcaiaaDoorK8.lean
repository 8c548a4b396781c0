/- Arguments opened: pixels (arrays of four bytes) and rectangles (structs of four numbers) by value. -/
import Derived.Test.YtklcmlbkhjcaiaaDoorRows
import Derived.Test.YtklcmlbkhjcaiaaDoorWorld
import Derived.ProofKit
import Derived.OpenShut
import Derived.ShutString
import Derived.ChangeOld
import Derived.Lib.SmallJoins
import Derived.Test.YtklcmlbkhjcaiaaDoorApp
import Derived.Deep.Slices








namespace Go.Proofs.YtklcmlbkhjcaiaaDoor
open Go.ChangeShapes Go.WideShapes Go.ChangeAt Go.RowKit Go.Joins Go.Deep
set_option linter.unusedVariables false

theorem own : ownKnob Tryd.prog.godebug = none := by kernel_rfl
theorem laidOut : laidOutB Tryd.prog = true := by kernel_rfl

theorem array4_of {α : Type} {cs : Array α} (h : cs.size = 4) : ∃ c0 c1 c2 c3, cs = #[c0, c1, c2, c3] := Go.Joins.array4 h

section
variable {H : Type} {enc : TypeId × Value → H} {P : Program} {w : World} {base : Nat} {spare : Nat → Bool} {held : Bool}

theorem okWide_array {r : Reach} {b0 : Nat} {t e : TypeId} {n : Nat} {v : Value} (ht : P.underlying t = some (.array n e)) (h : Value.okWide P w r b0 t v) : ∃ cs, v = .agg cs ∧ cs.size = P.cellsOf t := by
  simp only [Value.okWide, ht] at h
  obtain ⟨cs, h1, h2, _⟩ := h
  exact ⟨cs, h1, h2⟩

/-- The cells of a pixel that reads. -/
theorem trod_px {t e : TypeId} {fuel : Nat} {c0 c1 c2 c3 : Value} {x : DataW H × List MemPlace} (ht : P.underlying t = some (.array 4 e)) (he : P.underlying e = some (.int .u8)) (hce : P.cellsOf e = 1)
    (h : DataW.trod enc P w base spare held fuel t [c0, c1, c2, c3] = some x) :
    ∃ r g b a : Int, c0 = .int .u8 r ∧ c1 = .int .u8 g ∧ c2 = .int .u8 b ∧ c3 = .int .u8 a ∧ (0 ≤ r ∧ r ≤ 255) ∧ (0 ≤ g ∧ g ≤ 255) ∧ (0 ≤ b ∧ b ≤ 255) ∧ (0 ≤ a ∧ a ≤ 255) := by
  obtain ⟨y0, y1, y2, y3, n, _, h0, h1, h2, h3⟩ := trod_array4 ht hce h
  obtain ⟨r, e0, _, w0⟩ := DataW.trod_int he h0
  obtain ⟨g, e1, _, w1⟩ := DataW.trod_int he h1
  obtain ⟨b, e2, _, w2⟩ := DataW.trod_int he h2
  obtain ⟨a, e3, _, w3⟩ := DataW.trod_int he h3
  exact ⟨r, g, b, a, by simpa using e0, by simpa using e1, by simpa using e2, by simpa using e3, bounds_u8 w0, bounds_u8 w1, bounds_u8 w2, bounds_u8 w3⟩

theorem open_px {r : Reach} {b0 : Nat} {t e : TypeId} {v : Value} {d : DataW H} {p : List MemPlace} (ht : P.underlying t = some (.array 4 e)) (he : P.underlying e = some (.int .u8)) (hce : P.cellsOf e = 1) (hC : P.cellsOf t = 4)
    (hv : Value.okWide P w r b0 t v) (h : DataW.Trod enc P w base spare held t v d p) :
    ∃ r g b a : Int, v = .agg #[.int .u8 r, .int .u8 g, .int .u8 b, .int .u8 a] ∧ (0 ≤ r ∧ r ≤ 255) ∧ (0 ≤ g ∧ g ≤ 255) ∧ (0 ≤ b ∧ b ≤ 255) ∧ (0 ≤ a ∧ a ≤ 255) := by
  obtain ⟨cs, rfl, hsz⟩ := okWide_array ht hv
  obtain ⟨c0, c1, c2, c3, rfl⟩ := array4_of (hsz.trans hC)
  obtain ⟨fuel, hf⟩ := h
  obtain ⟨r, g, b, a, rfl, rfl, rfl, rfl, k0, k1, k2, k3⟩ := trod_px ht he hce hf
  exact ⟨r, g, b, a, rfl, k0, k1, k2, k3⟩

theorem open_rect {r : Reach} {b0 : Nat} {t : TypeId} {f0 f1 f2 f3 : Field} {v : Value} {d : DataW H} {p : List MemPlace} (ht : P.underlying t = some (.struct #[f0, f1, f2, f3])) (hone : oneCellFields P #[f0, f1, f2, f3] = true) (hC : P.cellsOf t = 4)
    (hk0 : P.underlying f0.type = some (.int .i64)) (hk1 : P.underlying f1.type = some (.int .i64)) (hk2 : P.underlying f2.type = some (.int .i64)) (hk3 : P.underlying f3.type = some (.int .i64))
    (hv : Value.okWide P w r b0 t v) (h : DataW.Trod enc P w base spare held t v d p) :
    ∃ x0 y0 x1 y1 : Int, v = .agg #[.int .i64 x0, .int .i64 y0, .int .i64 x1, .int .i64 y1] ∧ (Lit.int .i64 x0).wf = true ∧ (Lit.int .i64 y0).wf = true ∧ (Lit.int .i64 x1).wf = true ∧ (Lit.int .i64 y1).wf = true := by
  obtain ⟨v0, v1, v2, v3, z0, z1, z2, z3, n, rfl, _, _, h0, h1, h2, h3⟩ := Go.Joins.open_agg4 ht hone hC hv h
  obtain ⟨x0, e0, _, w0⟩ := DataW.trod_int hk0 h0
  obtain ⟨x1, e1, _, w1⟩ := DataW.trod_int hk1 h1
  obtain ⟨x2, e2, _, w2⟩ := DataW.trod_int hk2 h2
  obtain ⟨x3, e3, _, w3⟩ := DataW.trod_int hk3 h3
  simp at e0 e1 e2 e3
  subst e0 e1 e2 e3
  exact ⟨x0, x1, x2, x3, rfl, w0, w1, w2, w3⟩
end

/-- What the walk is told of a slice of integers that came in. -/
def IsRow (k : IntKind) (w : World) (a : Option Addr) (len cap : Nat) (zs : List Int) : Prop :=
  (a = none ∧ len = 0 ∧ cap = 0 ∧ zs = []) ∨
  ∃ x, a = some x ∧ len ≤ cap ∧ cap ≤ maxLen ∧ zs.length = cap ∧ (∀ i, i < zs.length → w.cell? (x.add i) = some (.int k (zs.getD i 0))) ∧ ∀ n ∈ zs, (Lit.int k n).wf = true

theorem i64_wf {n : Int} (h : (Lit.int .i64 n).wf = true) : -9223372036854775808 ≤ n ∧ n ≤ 9223372036854775807 := by
  simp [Lit.wf, IntKind.min, IntKind.max, IntKind.signed, IntKind.bits] at h
  omega
end Go.Proofs.YtklcmlbkhjcaiaaDoor
/- Arguments opened: buffers by value. -/



namespace Go.Proofs.YtklcmlbkhjcaiaaDoor
open Go.ChangeShapes Go.WideShapes Go.ChangeAt Go.RowKit Go.Joins Go.Deep
set_option linter.unusedVariables false

section
variable {H : Type} {enc : TypeId × Value → H} {P : Program} {w : World} {base : Nat} {spare : Nat → Bool} {held : Bool}

/-- The cells of a rectangle that reads. -/
theorem trod_rect {t : TypeId} {f0 f1 f2 f3 : Field} {fuel : Nat} {c0 c1 c2 c3 : Value} {x : DataW H × List MemPlace} (ht : P.underlying t = some (.struct #[f0, f1, f2, f3])) (hone : oneCellFields P #[f0, f1, f2, f3] = true)
    (hk0 : P.underlying f0.type = some (.int .i64)) (hk1 : P.underlying f1.type = some (.int .i64)) (hk2 : P.underlying f2.type = some (.int .i64)) (hk3 : P.underlying f3.type = some (.int .i64))
    (h : DataW.trod enc P w base spare held fuel t [c0, c1, c2, c3] = some x) :
    ∃ x0 y0 x1 y1 : Int, c0 = .int .i64 x0 ∧ c1 = .int .i64 y0 ∧ c2 = .int .i64 x1 ∧ c3 = .int .i64 y1 ∧ (Lit.int .i64 x0).wf = true ∧ (Lit.int .i64 y0).wf = true ∧ (Lit.int .i64 x1).wf = true ∧ (Lit.int .i64 y1).wf = true := by
  obtain ⟨xs, n, _, hx, _, hlen, hg⟩ := DataW.trod_struct ht h
  obtain ⟨o0, k0⟩ := hone_of hone 0 f0 rfl
  obtain ⟨o1, k1⟩ := hone_of hone 1 f1 rfl
  obtain ⟨o2, k2⟩ := hone_of hone 2 f2 rfl
  obtain ⟨o3, k3⟩ := hone_of hone 3 f3 rfl
  match xs, hlen with
  | [y0, y1, y2, y3], _ =>
    have g0 : DataW.trod enc P w base spare held n f0.type [c0] = some y0 := by simpa [o0, k0] using hg 0 f0 rfl
    have g1 : DataW.trod enc P w base spare held n f1.type [c1] = some y1 := by simpa [o1, k1] using hg 1 f1 rfl
    have g2 : DataW.trod enc P w base spare held n f2.type [c2] = some y2 := by simpa [o2, k2] using hg 2 f2 rfl
    have g3 : DataW.trod enc P w base spare held n f3.type [c3] = some y3 := by simpa [o3, k3] using hg 3 f3 rfl
    obtain ⟨x0, e0, _, w0⟩ := DataW.trod_int hk0 g0
    obtain ⟨x1, e1, _, w1⟩ := DataW.trod_int hk1 g1
    obtain ⟨x2, e2, _, w2⟩ := DataW.trod_int hk2 g2
    obtain ⟨x3, e3, _, w3⟩ := DataW.trod_int hk3 g3
    exact ⟨x0, x1, x2, x3, by simpa using e0, by simpa using e1, by simpa using e2, by simpa using e3, w0, w1, w2, w3⟩

/-- A row of pixels that reads. -/
theorem trod_pixs {t tp e : TypeId} {fuel : Nat} {v : Value} {x : DataW H × List MemPlace} (ht : P.underlying t = some (.slice tp)) (hp : P.underlying tp = some (.array 4 e)) (he : P.underlying e = some (.int .u8)) (hce : P.cellsOf e = 1) (hC : P.cellsOf tp = 4)
    (h : DataW.trod enc P w base spare held fuel t [v] = some x) : ∃ a len cap f, v = .slice a len cap ∧ IsPix w a len cap f := by
  rcases open_slice ht h with ⟨hv, _⟩ | ⟨a, len, cap, m, n, D, Pl, hv, _, hle, hm, hmm, _, hi⟩
  · exact ⟨none, 0, 0, fun _ => noP, by simpa using hv, IsPix.nil w _⟩
  · have hlm : len ≤ m := by rw [hmm]; split <;> omega
    have hx : ∀ i, i < len → ∃ p : P4, okP p ∧ ∀ c, c < 4 → w.cell? ((a.add (i * 4)).add c) = some (.int .u8 (chan p c)) := fun i hil => by
      obtain ⟨cs, hc, htr⟩ := hi i (by omega)
      rw [hC] at hc
      obtain ⟨_, hl, hat⟩ := World.cells?_some hc
      match cs, hl with
      | [c0, c1, c2, c3], _ =>
        obtain ⟨r, g, b, al, e0, e1, e2, e3, k0, k1, k2, k3⟩ := trod_px hp he hce htr
        refine ⟨⟨r, g, b, al⟩, ⟨k0, k1, k2, k3⟩, fun c hc4 => ?_⟩
        rw [hat c hc4]
        match c, hc4 with
        | 0, _ => simp [e0, chan]
        | 1, _ => simp [e1, chan]
        | 2, _ => simp [e2, chan]
        | 3, _ => simp [e3, chan]
    obtain ⟨f, hf⟩ : ∃ f : Nat → P4, ∀ i, i < len → okP (f i) ∧ ∀ c, c < 4 → w.cell? ((a.add (i * 4)).add c) = some (.int .u8 (chan (f i) c)) := by
      refine ⟨fun i => if hil : i < len then Classical.choose (hx i hil) else noP, fun i hil => ?_⟩
      simp only [hil, dif_pos]
      exact Classical.choose_spec (hx i hil)
    refine ⟨some a, len, cap, f, by simpa using hv, hle, by unfold maxLen at hm; omega, fun i hil => (hf i hil).1, fun h0 => ?_⟩
    have c0 := (hf 0 h0).2 0 (by omega)
    obtain ⟨b, off, sp⟩ := a
    have hsp : sp = none := by
      cases sp with
      | none => rfl
      | some j => simp [Addr.add, World.cell?] at c0; split at c0 <;> simp_all
    subst hsp
    refine ⟨b, off, rfl, ?_, fun i c hil hc4 => ?_⟩
    · by_cases hb : b < w.heap.size
      · exact hb
      · simp [Addr.add, World.cell?, hb] at c0
    · have := (hf i hil).2 c hc4
      rw [Go.Addr.add_mid, Go.Addr.add_mid, Nat.add_assoc] at this
      exact this

theorem open_buf {r : Reach} {b0 : Nat} {t : TypeId} {f0 f1 g0 g1 g2 g3 : Field} {tp e : TypeId} {v : Value} {d : DataW H} {p : List MemPlace} (ht : P.underlying t = some (.struct #[f0, f1])) (o0 : f0.offset = 0) (o1 : f1.offset = 4) (k0 : P.cellsOf f0.type = 4) (k1 : P.cellsOf f1.type = 1) (hC : P.cellsOf t = 5)
    (hr : P.underlying f0.type = some (.struct #[g0, g1, g2, g3])) (hone : oneCellFields P #[g0, g1, g2, g3] = true) (hk0 : P.underlying g0.type = some (.int .i64)) (hk1 : P.underlying g1.type = some (.int .i64)) (hk2 : P.underlying g2.type = some (.int .i64)) (hk3 : P.underlying g3.type = some (.int .i64))
    (hs : P.underlying f1.type = some (.slice tp)) (hp : P.underlying tp = some (.array 4 e)) (he : P.underlying e = some (.int .u8)) (hce : P.cellsOf e = 1) (hCp : P.cellsOf tp = 4)
    (hv : Value.okWide P w r b0 t v) (h : DataW.Trod enc P w base spare held t v d p) :
    ∃ (rr : R) (a : Option Addr) (len cap : Nat) (f : Nat → P4), v = .agg #[.int .i64 rr.x0, .int .i64 rr.y0, .int .i64 rr.x1, .int .i64 rr.y1, .slice a len cap] ∧ IsPix w a len cap f ∧
      (Lit.int .i64 rr.x0).wf = true ∧ (Lit.int .i64 rr.y0).wf = true ∧ (Lit.int .i64 rr.x1).wf = true ∧ (Lit.int .i64 rr.y1).wf = true := by
  obtain ⟨cs, rfl, hsz⟩ := okWide_struct ht hv
  obtain ⟨l⟩ := cs
  match l, hsz.trans hC with
  | [c0, c1, c2, c3, c4], _ =>
    obtain ⟨fuel, hf⟩ := h
    obtain ⟨xs, n, _, hx, _, hlen, hg⟩ := DataW.trod_struct ht hf
    match xs, hlen with
    | [y0, y1], _ =>
      have q0 : DataW.trod enc P w base spare held n f0.type [c0, c1, c2, c3] = some y0 := by simpa [Value.cells, o0, k0] using hg 0 f0 rfl
      have q1 : DataW.trod enc P w base spare held n f1.type [c4] = some y1 := by simpa [Value.cells, o1, k1] using hg 1 f1 rfl
      obtain ⟨x0, z0, x1, z1, rfl, rfl, rfl, rfl, w0, w1, w2, w3⟩ := trod_rect hr hone hk0 hk1 hk2 hk3 q0
      obtain ⟨a, len, cap, f, rfl, hpix⟩ := trod_pixs hs hp he hce hCp q1
      exact ⟨⟨x0, z0, x1, z1⟩, a, len, cap, f, rfl, hpix, w0, w1, w2, w3⟩
end
end Go.Proofs.YtklcmlbkhjcaiaaDoor
