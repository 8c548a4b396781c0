/- Arguments opened: rows of buffers. -/
import Derived.Test.YticeoppldlhehaaOpenB
import Derived.Test.YticeoppldlhehaaMergeL
namespace Go.Proofs.Yticeoppldlhehaa
open Go.ChangeShapes Go.WideShapes Go.ChangeAt Go.RowKit Go.Joins Go.Deep
set_option linter.unusedVariables false

section
variable {H : Type} {enc : TypeId × Value → H} {P : Program} {w : World} {base : Nat} {spare : Nat → Bool} {held : Bool}

/-- The cells of a buffer that reads. -/
theorem trod_buf {t : TypeId} {f0 f1 g0 g1 g2 g3 : Field} {tp e : TypeId} {fuel : Nat} {c0 c1 c2 c3 c4 : Value} {x : DataW H × List MemPlace} (ht : P.underlying t = some (.struct #[f0, f1])) (o0 : f0.offset = 0) (o1 : f1.offset = 4) (k0 : P.cellsOf f0.type = 4) (k1 : P.cellsOf f1.type = 1)
    (hr : P.underlying f0.type = some (.struct #[g0, g1, g2, g3])) (hone : oneCellFields P #[g0, g1, g2, g3] = true) (hk0 : P.underlying g0.type = some (.int .i64)) (hk1 : P.underlying g1.type = some (.int .i64)) (hk2 : P.underlying g2.type = some (.int .i64)) (hk3 : P.underlying g3.type = some (.int .i64))
    (hs : P.underlying f1.type = some (.slice tp)) (hp : P.underlying tp = some (.array 4 e)) (he : P.underlying e = some (.int .u8)) (hce : P.cellsOf e = 1) (hCp : P.cellsOf tp = 4)
    (h : DataW.trod enc P w base spare held fuel t [c0, c1, c2, c3, c4] = some x) :
    ∃ b : Bf, c0 = .int .i64 b.r.x0 ∧ c1 = .int .i64 b.r.y0 ∧ c2 = .int .i64 b.r.x1 ∧ c3 = .int .i64 b.r.y1 ∧ c4 = .slice b.a b.len b.cap ∧ IsPix w b.a b.len b.cap b.f := by
  obtain ⟨xs, n, _, hx, _, hlen, hg⟩ := DataW.trod_struct ht h
  match xs, hlen with
  | [y0, y1], _ =>
    have q0 : DataW.trod enc P w base spare held n f0.type [c0, c1, c2, c3] = some y0 := by simpa [o0, k0] using hg 0 f0 rfl
    have q1 : DataW.trod enc P w base spare held n f1.type [c4] = some y1 := by simpa [o1, k1] using hg 1 f1 rfl
    obtain ⟨x0, z0, x1, z1, rfl, rfl, rfl, rfl, w0, w1, w2, w3⟩ := trod_rect hr hone hk0 hk1 hk2 hk3 q0
    obtain ⟨a, len, cap, f, rfl, hpix⟩ := trod_pixs hs hp he hce hCp q1
    exact ⟨⟨⟨x0, z0, x1, z1⟩, a, len, cap, f⟩, rfl, rfl, rfl, rfl, rfl, hpix⟩

theorem open_bufs {r : Reach} {b0 : Nat} {s t : TypeId} {f0 f1 g0 g1 g2 g3 : Field} {tp e : TypeId} {v : Value} {d : DataW H} {p : List MemPlace} (hS : P.underlying s = some (.slice t)) (ht : P.underlying t = some (.struct #[f0, f1])) (o0 : f0.offset = 0) (o1 : f1.offset = 4) (k0 : P.cellsOf f0.type = 4) (k1 : P.cellsOf f1.type = 1) (hC : P.cellsOf t = 5)
    (hr : P.underlying f0.type = some (.struct #[g0, g1, g2, g3])) (hone : oneCellFields P #[g0, g1, g2, g3] = true) (hk0 : P.underlying g0.type = some (.int .i64)) (hk1 : P.underlying g1.type = some (.int .i64)) (hk2 : P.underlying g2.type = some (.int .i64)) (hk3 : P.underlying g3.type = some (.int .i64))
    (hs : P.underlying f1.type = some (.slice tp)) (hp : P.underlying tp = some (.array 4 e)) (he : P.underlying e = some (.int .u8)) (hce : P.cellsOf e = 1) (hCp : P.cellsOf tp = 4)
    (hv : Value.okWide P w r b0 s v) (h : DataW.Trod enc P w base spare held s v d p) :
    ∃ (a : Option Addr) (len cap : Nat) (g : Nat → Bf), v = .slice a len cap ∧ IsBufs w a len cap g := by
  obtain ⟨a', len', cap', rfl⟩ := okWide_slice hS hv
  obtain ⟨fuel, hf⟩ := h
  rcases open_slice hS hf with ⟨hv, _⟩ | ⟨a, len, cap, m, n, D, Pl, hv, _, hle, hm, hmm, _, hi⟩
  · simp [Value.cells] at hv
    obtain ⟨rfl, rfl, rfl⟩ := hv
    exact ⟨none, 0, 0, fun _ => ⟨zeroR, none, 0, 0, fun _ => noP⟩, rfl, IsBufs.nil w _⟩
  · simp [Value.cells] at hv
    obtain ⟨rfl, rfl, rfl⟩ := hv
    have hlm : len' ≤ m := by rw [hmm]; split <;> omega
    have hx : ∀ i, i < len' → ∃ b : Bf, w.cell? ((a.add (i * 5)).add 0) = some (.int .i64 b.r.x0) ∧ w.cell? ((a.add (i * 5)).add 1) = some (.int .i64 b.r.y0) ∧ w.cell? ((a.add (i * 5)).add 2) = some (.int .i64 b.r.x1) ∧ w.cell? ((a.add (i * 5)).add 3) = some (.int .i64 b.r.y1) ∧ w.cell? ((a.add (i * 5)).add 4) = some (.slice b.a b.len b.cap) ∧ IsPix w b.a b.len b.cap b.f := fun i hil => by
      obtain ⟨cs, hc, htr⟩ := hi i (by omega)
      rw [hC] at hc
      obtain ⟨_, hl, hat⟩ := World.cells?_some hc
      match cs, hl with
      | [c0, c1, c2, c3, c4], _ =>
        obtain ⟨b, e0, e1, e2, e3, e4, hpx⟩ := trod_buf ht o0 o1 k0 k1 hr hone hk0 hk1 hk2 hk3 hs hp he hce hCp htr
        exact ⟨b, by rw [hat 0 (by omega)]; simp [e0], by rw [hat 1 (by omega)]; simp [e1], by rw [hat 2 (by omega)]; simp [e2], by rw [hat 3 (by omega)]; simp [e3], by rw [hat 4 (by omega)]; simp [e4], hpx⟩
    obtain ⟨f, hf⟩ : ∃ f : Nat → Bf, ∀ i, i < len' → w.cell? ((a.add (i * 5)).add 0) = some (.int .i64 (f i).r.x0) ∧ w.cell? ((a.add (i * 5)).add 1) = some (.int .i64 (f i).r.y0) ∧ w.cell? ((a.add (i * 5)).add 2) = some (.int .i64 (f i).r.x1) ∧ w.cell? ((a.add (i * 5)).add 3) = some (.int .i64 (f i).r.y1) ∧ w.cell? ((a.add (i * 5)).add 4) = some (.slice (f i).a (f i).len (f i).cap) ∧ IsPix w (f i).a (f i).len (f i).cap (f i).f := by
      refine ⟨fun i => if hil : i < len' then Classical.choose (hx i hil) else ⟨zeroR, none, 0, 0, fun _ => noP⟩, fun i hil => ?_⟩
      simp only [hil, dif_pos]
      exact Classical.choose_spec (hx i hil)
    refine ⟨some a, len', cap', f, rfl, hle, by unfold maxLen at hm; omega, fun i hil => (hf i hil).2.2.2.2.2, fun h0 => ?_⟩
    have c0 := (hf 0 h0).1
    obtain ⟨b, off, sp⟩ := a
    have hsp : sp = none := by
      cases sp with
      | none => rfl
      | some j => simp [Addr.add, World.cell?] at c0; split at c0 <;> simp_all
    subst hsp
    refine ⟨b, off, rfl, ?_, fun i hil => ?_⟩
    · by_cases hb : b < w.heap.size
      · exact hb
      · simp [Addr.add, World.cell?, hb] at c0
    · have := hf i hil
      simp only [Go.Addr.add_mid, Nat.add_zero] at this
      exact ⟨this.1, this.2.1, this.2.2.1, this.2.2.2.1, this.2.2.2.2.1⟩
end
end Go.Proofs.Yticeoppldlhehaa
