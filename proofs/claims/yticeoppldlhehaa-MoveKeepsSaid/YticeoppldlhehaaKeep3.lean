/- Three buffers in a row, all overwritten: what holds meanwhile. -/
import Derived.Test.YticeoppldlhehaaMergeL
import Derived.Test.YticeoppldlhehaaKeepL
namespace Go.Proofs.Yticeoppldlhehaa
open Go.RowKit
set_option linter.unusedVariables false

theorem nines {j : Nat} (hj : j < (pxC ⟨9, 9, 9, 9⟩).length) : (pxC ⟨9, 9, 9, 9⟩)[j] = .int .u8 9 := by
  have h4 : j < 4 := hj
  match j, h4 with
  | 0, _ => rfl
  | 1, _ => rfl
  | 2, _ => rfl
  | 3, _ => rfl
theorem chan_bytes {p : P4} (h : okP p) {c : Nat} (hc : c < 4) : 0 ≤ chan p c ∧ chan p c ≤ 255 := by
  match c, hc with
  | 0, _ => exact h.1
  | 1, _ => exact h.2.1
  | 2, _ => exact h.2.2.1
  | 3, _ => exact h.2.2.2
/-- Wherever four nines are written, a row of pixels stays one. -/
theorem IsPix.nine_any {w : World} {a : Option Addr} {len cap : Nat} {f : Nat → P4} (h : IsPix w a len cap f) (b o : Nat) (he : ∀ j, j < (pxC ⟨9, 9, 9, 9⟩).length → (w.cell? ⟨b, o + j, none⟩).isSome = true) :
    ∃ f', IsPix (w.setCells b o (pxC ⟨9, 9, 9, 9⟩)) a len cap f' := by
  by_cases h0 : 0 < len
  · obtain ⟨b', off, rfl, hb, hc⟩ := h.cells h0
    have key : ∀ i c, i < len ∧ c < 4 → ∃ n : Int, (0 ≤ n ∧ n ≤ 255) ∧ (w.setCells b o (pxC ⟨9, 9, 9, 9⟩)).cell? ⟨b', off + (i * 4 + c), none⟩ = some (.int .u8 n) := by
      intro i c ⟨hi, hc4⟩
      by_cases e : b' = b ∧ o ≤ off + (i * 4 + c) ∧ off + (i * 4 + c) < o + 4
      · obtain ⟨rfl, e1, e2⟩ := e
        have k := World.cell?_setCells_in b' (pxC ⟨9, 9, 9, 9⟩) o w he (off + (i * 4 + c) - o) (by rw [pxC_length]; omega)
        rw [show o + (off + (i * 4 + c) - o) = off + (i * 4 + c) from by omega, nines] at k
        exact ⟨9, by omega, k⟩
      · refine ⟨chan (f i) c, chan_bytes (h.ok i hi) hc4, ?_⟩
        rw [World.cell?_setCells_out b _ o w _ (fun h1 _ => by
          have h1' : b' = b := h1
          rw [pxC_length]
          show off + (i * 4 + c) < o ∨ o + 4 ≤ off + (i * 4 + c)
          omega)]
        exact hc i c hi hc4
    obtain ⟨g, hg⟩ : ∃ g : Nat → Nat → Int, ∀ i c, i < len ∧ c < 4 → (0 ≤ g i c ∧ g i c ≤ 255) ∧ (w.setCells b o (pxC ⟨9, 9, 9, 9⟩)).cell? ⟨b', off + (i * 4 + c), none⟩ = some (.int .u8 (g i c)) := by
      refine ⟨fun i c => if hh : i < len ∧ c < 4 then Classical.choose (key i c hh) else 0, fun i c hh => ?_⟩
      simp only [dif_pos hh]
      exact Classical.choose_spec (key i c hh)
    refine ⟨fun i => ⟨g i 0, g i 1, g i 2, g i 3⟩, h.le, h.most, fun i hi => ⟨(hg i 0 ⟨hi, by omega⟩).1, (hg i 1 ⟨hi, by omega⟩).1, (hg i 2 ⟨hi, by omega⟩).1, (hg i 3 ⟨hi, by omega⟩).1⟩, fun _ => ⟨b', off, rfl, by rw [size_setCells]; exact hb, fun i c hi hc4 => ?_⟩⟩
    match c, hc4 with
    | 0, _ => exact (hg i 0 ⟨hi, by omega⟩).2
    | 1, _ => exact (hg i 1 ⟨hi, by omega⟩).2
    | 2, _ => exact (hg i 2 ⟨hi, by omega⟩).2
    | 3, _ => exact (hg i 3 ⟨hi, by omega⟩).2
  · exact ⟨f, h.le, h.most, fun i hi => by omega, fun k => absurd k h0⟩

/-- Three buffers in new memory. -/
structure K3 (w wr : World) (al : Option Addr) (G : Nat → Bf) : Prop where
  gr : Grows w wr
  bufs : ∃ h : Nat → Nat → P4, IsBufs wr al 3 3 (fun i => ⟨(G i).r, (G i).a, (G i).len, (G i).cap, h i⟩)
  open_ : ∀ i, i < 3 → Open wr (G i).a
  far : ∀ i, i < 3 → ∀ k, blkOf (G i).a = some k → w.heap.size ≤ k ∧ blkOf al ≠ some k
theorem K3.grows {w wr w' : World} {al : Option Addr} {G : Nat → Bf} (s : K3 w wr al G) (g : Grows wr w') : K3 w w' al G :=
  ⟨s.gr.trans g, by obtain ⟨h, hb⟩ := s.bufs; exact ⟨h, hb.grows g⟩, fun i hi => (s.open_ i hi).grows g, s.far⟩
theorem K3.at {w wr : World} {al : Option Addr} {G : Nat → Bf} (s : K3 w wr al G) {i : Nat} (hi : i < 3) : ∃ b off, al = some ⟨b, off, none⟩ ∧ b < wr.heap.size ∧ wr.cell? ⟨b, off + i * 5 + 4, none⟩ = some (.slice (G i).a (G i).len (G i).cap) := by
  obtain ⟨h, hb⟩ := s.bufs
  obtain ⟨b, off, e, hl, _, _, _, _, c⟩ := hb.at hi
  exact ⟨b, off, e, hl, c⟩
theorem K3.px {w wr : World} {al : Option Addr} {G : Nat → Bf} (s : K3 w wr al G) {i : Nat} (hi : i < 3) : ∃ f, IsPix wr (G i).a (G i).len (G i).cap f := by
  obtain ⟨h, hb⟩ := s.bufs
  exact ⟨_, hb.pix i hi⟩
theorem K3.set {w wr : World} {al : Option Addr} {G : Nat → Bf} (s : K3 w wr al G) {i : Nat} (hi : i < 3) {b off k : Nat} (ha : (G i).a = some ⟨b, off, none⟩) (hk : k < (G i).len) : K3 w (wr.setCells b (off + k * 4) (pxC ⟨9, 9, 9, 9⟩)) al G := by
  have fr := s.far i hi b (by rw [ha]; rfl)
  have he : ∀ j, j < (pxC ⟨9, 9, 9, 9⟩).length → (wr.cell? ⟨b, off + k * 4 + j, none⟩).isSome = true := fun j hj => by
    obtain ⟨f, hf⟩ := s.px hi
    obtain ⟨b', off', e, _, hc⟩ := hf.cells (by omega)
    rw [ha] at e
    injection e with e
    injection e with e1 e2
    subst e1 e2
    have := hc k j hk hj
    rw [Nat.add_assoc, this]
    rfl
  refine ⟨s.gr.grown (grownBy_setCells wr b (off + k * 4) _) (fun j hj => by injection hj with hj; rw [← hj]; exact fr.1), ?_, fun j hj => (s.open_ j hj).setCells _ _ _, s.far⟩
  obtain ⟨h, hb⟩ := s.bufs
  have key : ∀ j, j < 3 → ∃ f', IsPix (wr.setCells b (off + k * 4) (pxC ⟨9, 9, 9, 9⟩)) (G j).a (G j).len (G j).cap f' := fun j hj => (hb.pix j hj).nine_any b _ he
  refine ⟨fun j => if hj : j < 3 then Classical.choose (key j hj) else fun _ => noP, hb.le, hb.most, fun j hj => ?_, fun h0 => ?_⟩
  · simp only [dif_pos hj]
    exact Classical.choose_spec (key j hj)
  · obtain ⟨b3, o3, e3, hl, hc⟩ := hb.cells h0
    refine ⟨b3, o3, e3, by rw [size_setCells]; exact hl, fun j hj => ?_⟩
    have hne : b3 ≠ b := fun e => fr.2 (by rw [e3]; exact congrArg some e)
    have e : ∀ c, (wr.setCells b (off + k * 4) (pxC ⟨9, 9, 9, 9⟩)).cell? ⟨b3, c, none⟩ = wr.cell? ⟨b3, c, none⟩ := fun c => World.cell?_setCells_out b _ _ wr _ (fun h1 _ => absurd h1 hne)
    simp only [e]
    exact hc j hj
theorem K3.nine {w wr : World} {al : Option Addr} {G : Nat → Bf} (s : K3 w wr al G) {i : Nat} (hi : i < 3) {b off k : Nat} (ha : (G i).a = some ⟨b, off, none⟩) (hk : k < (G i).len) :
    K3 w ((((wr.setCell ⟨b, off + k * 4, none⟩ (.int .u8 9)).setCell ⟨b, off + k * 4 + 1, none⟩ (.int .u8 9)).setCell ⟨b, off + k * 4 + 2, none⟩ (.int .u8 9)).setCell ⟨b, off + k * 4 + 3, none⟩ (.int .u8 9)) al G := by
  have e := s.set hi ha hk
  simp only [pxC, World.setCells, Nat.add_assoc, Nat.reduceAdd] at e ⊢
  exact e
/-- Three in a row, as they are made. -/
theorem bufs3 {w : World} {n : Nat} {t : R} {a0 a1 a2 : Option Addr} {l0 l1 l2 c0 c1 c2 : Nat} {F0 F1 F2 : Img}
    (h : Blk w n 26 #[.int .i64 t.x0, .int .i64 t.y0, .int .i64 t.x1, .int .i64 t.y1, .slice a0 l0 c0, .int .i64 t.x0, .int .i64 t.y0, .int .i64 t.x1, .int .i64 t.y1, .slice a1 l1 c1, .int .i64 t.x0, .int .i64 t.y0, .int .i64 t.x1, .int .i64 t.y1, .slice a2 l2 c2])
    (h0 : BufAt w t a0 l0 c0 F0) (h1 : BufAt w t a1 l1 c1 F1) (h2 : BufAt w t a2 l2 c2 F2) :
    ∃ f : Nat → Nat → P4, IsBufs w (some ⟨n, 0, none⟩) 3 3 (fun i => ⟨t, if i = 0 then a0 else if i = 1 then a1 else a2, if i = 0 then l0 else if i = 1 then l1 else l2, if i = 0 then c0 else if i = 1 then c1 else c2, f i⟩) := by
  refine ⟨fun i => if i = 0 then (fun j => F0 (ptX t j) (ptY t j)) else if i = 1 then (fun j => F1 (ptX t j) (ptY t j)) else (fun j => F2 (ptX t j) (ptY t j)), Nat.le_refl _, by omega, fun i hi => ?_, fun _ => ⟨n, 0, rfl, h.lt, fun i hi => ?_⟩⟩
  · have : i = 0 ∨ i = 1 ∨ i = 2 := by omega
    rcases this with rfl | rfl | rfl
    · exact h0.pix
    · exact h1.pix
    · exact h2.pix
  · simp only [h.cell]
    have : i = 0 ∨ i = 1 ∨ i = 2 := by omega
    rcases this with rfl | rfl | rfl
    · exact ⟨rfl, rfl, rfl, rfl, rfl⟩
    · exact ⟨rfl, rfl, rfl, rfl, rfl⟩
    · exact ⟨rfl, rfl, rfl, rfl, rfl⟩
/-- One alone. -/
theorem bufs1 {w : World} {n : Nat} {t : R} {a : Option Addr} {l c : Nat} {F : Img} (h : Blk w n 26 #[.int .i64 t.x0, .int .i64 t.y0, .int .i64 t.x1, .int .i64 t.y1, .slice a l c]) (h0 : BufAt w t a l c F) :
    IsBufs w (some ⟨n, 0, none⟩) 1 1 (fun _ => ⟨t, a, l, c, fun j => F (ptX t j) (ptY t j)⟩) := by
  refine ⟨Nat.le_refl _, by omega, fun i hi => h0.pix, fun _ => ⟨n, 0, rfl, h.lt, fun i hi => ?_⟩⟩
  obtain rfl : i = 0 := by omega
  simp only [h.cell]
  exact ⟨rfl, rfl, rfl, rfl, rfl⟩
def sBuf1 (parts : Array (Nat × Value)) : Sem Value := Instr.buildSlice 42 1 parts
@[go_sem ↓] theorem slice_is_buf1 (parts : Array (Nat × Value)) : Instr.buildSlice 42 1 parts = sBuf1 parts := rfl
@[simp, go_sem] theorem slice_buf1 (w : World) (x0 y0 x1 y1 : Int) (a : Option Addr) (l c : Nat) : (sBuf1 #[(0, .agg #[.int .i64 x0, .int .i64 y0, .int .i64 x1, .int .i64 y1, .slice a l c])]).run Try.prog w = .ok (.slice (some ⟨w.heap.size, 0, none⟩) 1 1) (w.alloc (.cells #[.int .i64 x0, .int .i64 y0, .int .i64 x1, .int .i64 y1, .slice a l c] 26)) := by kernel_rfl
def sBuf3 (parts : Array (Nat × Value)) : Sem Value := Instr.buildSlice 42 3 parts
@[go_sem ↓] theorem slice_is_buf3 (parts : Array (Nat × Value)) : Instr.buildSlice 42 3 parts = sBuf3 parts := rfl
@[simp, go_sem] theorem slice_buf3 (w : World) (x0 y0 x1 y1 : Int) (a : Option Addr) (l c : Nat) (u0 v0 u1 v1 : Int) (b : Option Addr) (m d : Nat) (s0 t0 s1 t1 : Int) (e : Option Addr) (n f : Nat) : (sBuf3 #[(0, .agg #[.int .i64 x0, .int .i64 y0, .int .i64 x1, .int .i64 y1, .slice a l c]), (1, .agg #[.int .i64 u0, .int .i64 v0, .int .i64 u1, .int .i64 v1, .slice b m d]), (2, .agg #[.int .i64 s0, .int .i64 t0, .int .i64 s1, .int .i64 t1, .slice e n f])]).run Try.prog w = .ok (.slice (some ⟨w.heap.size, 0, none⟩) 3 3) (w.alloc (.cells #[.int .i64 x0, .int .i64 y0, .int .i64 x1, .int .i64 y1, .slice a l c, .int .i64 u0, .int .i64 v0, .int .i64 u1, .int .i64 v1, .slice b m d, .int .i64 s0, .int .i64 t0, .int .i64 s1, .int .i64 t1, .slice e n f] 26)) := by kernel_rfl
/-- What one call has answered, and what has come since. -/
def Ret3 (W0 : World) (t : R) (I : Img) (a : Option Addr) (l c : Nat) (w : World) : Prop := BufAt w t a l c I ∧ Open w a ∧ (∀ k, blkOf a = some k → W0.heap.size ≤ k ∧ k < w.heap.size) ∧ Grows W0 w
theorem Ret3.of {W0 W w : World} {t : R} {I : Img} {a : Option Addr} {l c : Nat} (g : Grows W0 W) (h : Grows W w) (r : BufAt w t a l c I ∧ Open w a ∧ ∀ x, a = some x → W.heap.size ≤ x.block) : Ret3 W0 t I a l c w :=
  ⟨r.1, r.2.1, fun k hk => by
    obtain ⟨x, rfl, rfl⟩ := blkOf_some_iff hk
    have := r.2.2 x rfl
    have := (r.2.1 x rfl).1
    have := g.below.size
    omega, g.trans h⟩
theorem Ret3.grows {W0 w w' : World} {t : R} {I : Img} {a : Option Addr} {l c : Nat} (h : Ret3 W0 t I a l c w) (g : Grows w w') : Ret3 W0 t I a l c w' :=
  ⟨h.1.grows g, h.2.1.grows g, fun k hk => by have := h.2.2.1 k hk; have := g.below.size; omega, h.2.2.2.trans g⟩
theorem K3.made {W0 w w2 : World} {n : Nat} {t : R} {a0 a1 a2 : Option Addr} {l0 l1 l2 c0 c1 c2 : Nat} {F0 F1 F2 : Img} (z0 : Ret3 W0 t F0 a0 l0 c0 w) (z1 : Ret3 W0 t F1 a1 l1 c1 w) (z2 : Ret3 W0 t F2 a2 l2 c2 w) (g : Grows w w2) (hn : w.heap.size ≤ n)
    (h : Blk w2 n 26 #[.int .i64 t.x0, .int .i64 t.y0, .int .i64 t.x1, .int .i64 t.y1, .slice a0 l0 c0, .int .i64 t.x0, .int .i64 t.y0, .int .i64 t.x1, .int .i64 t.y1, .slice a1 l1 c1, .int .i64 t.x0, .int .i64 t.y0, .int .i64 t.x1, .int .i64 t.y1, .slice a2 l2 c2]) :
    K3 W0 w2 (some ⟨n, 0, none⟩) (fun i => ⟨t, if i = 0 then a0 else if i = 1 then a1 else a2, if i = 0 then l0 else if i = 1 then l1 else l2, if i = 0 then c0 else if i = 1 then c1 else c2, fun _ => noP⟩) := by
  have far : ∀ {a : Option Addr}, (∀ k, blkOf a = some k → W0.heap.size ≤ k ∧ k < w.heap.size) → ∀ k, blkOf a = some k → W0.heap.size ≤ k ∧ blkOf (some (⟨n, 0, none⟩ : Addr)) ≠ some k := fun hh k hk => ⟨(hh k hk).1, fun e => by
    have := (hh k hk).2
    have e2 : n = k := by simpa using e
    omega⟩
  refine ⟨z0.2.2.2.trans g, ?_, fun i hi => ?_, fun i hi => ?_⟩
  · exact bufs3 h (z0.1.grows g) (z1.1.grows g) (z2.1.grows g)
  · have : i = 0 ∨ i = 1 ∨ i = 2 := by omega
    rcases this with rfl | rfl | rfl
    · exact z0.2.1.grows g
    · exact z1.2.1.grows g
    · exact z2.2.1.grows g
  · have : i = 0 ∨ i = 1 ∨ i = 2 := by omega
    rcases this with rfl | rfl | rfl
    · exact far z0.2.2.1
    · exact far z1.2.2.1
    · exact far z2.2.2.1
end Go.Proofs.Yticeoppldlhehaa
