/- Rows of pixels, and buffers, in memory: words over any program, and how they are kept. -/
import Derived.Test.YtklcmlbkhjcaiaaDoorWorld
import Derived.Test.YtklcmlbkhjcaiaaDoorK1
import Derived.Lib.Hide
import Derived.Deep.AppendLies
import Derived.Deep.MidRow
import Derived.Laws.AppendOwn







namespace Go.Proofs.YtklcmlbkhjcaiaaDoor
open Go.RowKit
set_option linter.unusedVariables false

@[simp, go_sem] theorem lt_p1 {k a : Nat} (h : k < a) : k < a + 1 := by omega
@[simp, go_sem] theorem lt_p2 {k a : Nat} (h : k < a) : k < a + 1 + 1 := by omega
@[simp, go_sem] theorem lt_p3 {k a : Nat} (h : k < a) : k < a + 1 + 1 + 1 := by omega
@[simp, go_sem] theorem lt_p4 {k a : Nat} (h : k < a) : k < a + 1 + 1 + 1 + 1 := by omega
@[simp, go_sem] theorem lt_p1g {k a : Nat} (g : Growth) (h : k < a) : k < a + g.news.size + 1 := by omega
@[simp, go_sem] theorem lt_p2g {k a : Nat} (g : Growth) (h : k < a) : k < a + g.news.size + 1 + 1 := by omega

/-- A pixel's four cells. -/
def pxC (p : P4) : List Value := [.int .u8 p.r, .int .u8 p.g, .int .u8 p.b, .int .u8 p.a]
theorem pxC_length (p : P4) : (pxC p).length = 4 := rfl
theorem pxC_at (p : P4) {c : Nat} (hc : c < 4) : (pxC p)[c]? = some (.int .u8 (chan p c)) := by
  match c, hc with
  | 0, _ => rfl
  | 1, _ => rfl
  | 2, _ => rfl
  | 3, _ => rfl
theorem pxC_one {p : P4} {u : Value} (h : u ∈ pxC p) : u.oneCell' = true := by
  simp only [pxC, List.mem_cons, List.not_mem_nil, or_false] at h
  rcases h with rfl | rfl | rfl | rfl <;> rfl

/-- A row of pixels. -/
structure IsPix (w : World) (a : Option Addr) (len cap : Nat) (f : Nat → P4) : Prop where
  le : len ≤ cap
  most : cap ≤ 9223372036854775807
  ok : ∀ i, i < len → okP (f i)
  cells : 0 < len → ∃ b off, a = some ⟨b, off, none⟩ ∧ b < w.heap.size ∧ ∀ i c, i < len → c < 4 → w.cell? ⟨b, off + (i * 4 + c), none⟩ = some (.int .u8 (chan (f i) c))

section
variable {w w' : World} {a : Option Addr} {len cap : Nat} {f g : Nat → P4}
theorem IsPix.keep (h : IsPix w a len cap f) (hs : w.heap.size ≤ w'.heap.size) (hk : 0 < len → ∀ x, a = some x → x.block < w.heap.size → w'.heap[x.block]? = w.heap[x.block]?) : IsPix w' a len cap f :=
  ⟨h.le, h.most, h.ok, fun h0 => by
    obtain ⟨b, off, rfl, hb, hc⟩ := h.cells h0
    refine ⟨b, off, rfl, by omega, fun i c hi hc4 => ?_⟩
    exact (World.cell?_of_block (a := ⟨b, off + (i * 4 + c), none⟩) (hk h0 ⟨b, off, none⟩ rfl hb)).trans (hc i c hi hc4)⟩
theorem IsPix.grows (h : IsPix w a len cap f) (hg : Grows w w') : IsPix w' a len cap f := h.keep hg.below.size fun _ x _ hx => hg.below.block _ hx
theorem IsPix.grown {row : Option Nat} (h : IsPix w a len cap f) (hg : w.grownBy w' row) (hne : 0 < len → ∀ x, a = some x → some x.block ≠ row) : IsPix w' a len cap f := h.keep hg.size fun h0 x hx hl => hg.block _ hl (hne h0 x hx)
theorem IsPix.congr (h : IsPix w a len cap f) (hfg : ∀ i, i < len → f i = g i) : IsPix w a len cap g :=
  ⟨h.le, h.most, fun i hi => by rw [← hfg i hi]; exact h.ok i hi, fun h0 => by
    obtain ⟨b, off, rfl, hb, hc⟩ := h.cells h0
    exact ⟨b, off, rfl, hb, fun i c hi hc4 => by rw [← hfg i hi]; exact hc i c hi hc4⟩⟩
theorem IsPix.nil (w : World) (f : Nat → P4) : IsPix w none 0 0 f := ⟨by omega, by omega, fun i hi => by omega, fun h => by omega⟩
/-- A pixel's four cells, as the walk reads them. -/
theorem IsPix.px (h : IsPix w a len cap f) {k : Nat} (hk : k < len) : ∃ b off, a = some ⟨b, off, none⟩ ∧ b < w.heap.size ∧ okP (f k) ∧
    w.cell? ⟨b, off + k * 4, none⟩ = some (.int .u8 (f k).r) ∧ w.cell? ⟨b, off + k * 4 + 1, none⟩ = some (.int .u8 (f k).g) ∧ w.cell? ⟨b, off + k * 4 + 2, none⟩ = some (.int .u8 (f k).b) ∧ w.cell? ⟨b, off + k * 4 + 3, none⟩ = some (.int .u8 (f k).a) := by
  obtain ⟨b, off, rfl, hb, hc⟩ := h.cells (by omega)
  refine ⟨b, off, rfl, hb, h.ok k hk, ?_, ?_, ?_, ?_⟩
  · exact hc k 0 hk (by omega)
  · have := hc k 1 hk (by omega); rw [← Nat.add_assoc] at this; exact this
  · have := hc k 2 hk (by omega); rw [← Nat.add_assoc] at this; exact this
  · have := hc k 3 hk (by omega); rw [← Nat.add_assoc] at this; exact this
end

/-! Stores. -/
theorem heap_setCells (b : Nat) : ∀ (vs : List Value) (o : Nat) (w : World) (k : Nat), k ≠ b → (w.setCells b o vs).heap[k]? = w.heap[k]?
  | [], _, _, _, _ => rfl
  | v :: l, o, w, k, h => by rw [World.setCells, heap_setCells b l (o + 1) _ k h]; exact Below.heap_setCell w ⟨b, o, none⟩ v k h
theorem size_setCells (b : Nat) : ∀ (vs : List Value) (o : Nat) (w : World), (w.setCells b o vs).heap.size = w.heap.size
  | [], _, _ => rfl
  | v :: l, o, w => by rw [World.setCells, size_setCells b l (o + 1)]; simp [World.setCell]
theorem same_setCells (b : Nat) : ∀ (vs : List Value) (o : Nat) (w : World), (w.setCells b o vs).os = w.os ∧ (w.setCells b o vs).tape = w.tape ∧ (w.setCells b o vs).output = w.output
  | [], _, _ => ⟨rfl, rfl, rfl⟩
  | v :: l, o, w => by rw [World.setCells]; exact same_setCells b l (o + 1) _
/-- The block of a slice. -/
def blkOf (a : Option Addr) : Option Nat := a.map (·.block)
@[simp] theorem blkOf_none : blkOf none = none := rfl
@[simp] theorem blkOf_some (x : Addr) : blkOf (some x) = some x.block := rfl

/-- The block of a slice may be written. -/
def Open (w : World) (a : Option Addr) : Prop := ∀ x, a = some x → x.block < w.heap.size ∧ ∀ i, w.frozen? ⟨x.block, i, none⟩ = false
theorem Open.none_ (w : World) : Open w none := fun x h => by cases h
theorem Open.keep {w w' : World} {a : Option Addr} (h : Open w a) (hs : w.heap.size ≤ w'.heap.size) (hk : ∀ x, a = some x → x.block < w.heap.size → w'.heap[x.block]? = w.heap[x.block]?) : Open w' a := fun x hx =>
  ⟨by have := (h x hx).1; omega, fun i => by rw [World.frozen?_of_block (a := ⟨x.block, i, none⟩) (hk x hx (h x hx).1)]; exact (h x hx).2 i⟩
theorem Open.grows {w w' : World} {a : Option Addr} (h : Open w a) (hg : Grows w w') : Open w' a := h.keep hg.below.size fun x _ hx => hg.below.block _ hx
theorem Open.grown {w w' : World} {a : Option Addr} {row : Option Nat} (h : Open w a) (hg : w.grownBy w' row) (hne : ∀ x, a = some x → some x.block ≠ row) : Open w' a := h.keep hg.size fun x hx hl => hg.block _ hl (hne x hx)
theorem Open.setCells {w : World} {a : Option Addr} (h : Open w a) (b o : Nat) (vs : List Value) : Open (w.setCells b o vs) a := fun x hx =>
  ⟨by rw [size_setCells]; exact (h x hx).1, fun i => by rw [World.frozen?_setCells]; exact (h x hx).2 i⟩

/-- A buffer: a rectangle, and the row of its pixels. -/
structure BufAt (w : World) (r : R) (a : Option Addr) (len cap : Nat) (F : Img) : Prop where
  good : GoodR r
  count : len = cntR r
  fits : Fits r F
  pix : IsPix w a len cap fun i => F (ptX r i) (ptY r i)

section
variable {w w' : World} {r : R} {a : Option Addr} {len cap : Nat} {F G : Img}
theorem BufAt.grows (h : BufAt w r a len cap F) (hg : Grows w w') : BufAt w' r a len cap F := ⟨h.good, h.count, h.fits, h.pix.grows hg⟩
theorem BufAt.grown {row : Option Nat} (h : BufAt w r a len cap F) (hg : w.grownBy w' row) (hne : 0 < len → ∀ x, a = some x → some x.block ≠ row) : BufAt w' r a len cap F := ⟨h.good, h.count, h.fits, h.pix.grown hg hne⟩
theorem BufAt.most (h : BufAt w r a len cap F) : len ≤ cap ∧ cap ≤ 9223372036854775807 := ⟨h.pix.le, h.pix.most⟩
theorem BufAt.px (h : BufAt w r a len cap F) {x y : Int} (k : hasR r x y = true) : ∃ b off, a = some ⟨b, off, none⟩ ∧ b < w.heap.size ∧ okP (F x y) ∧
    w.cell? ⟨b, off + (idxR r x y).toNat * 4, none⟩ = some (.int .u8 (F x y).r) ∧ w.cell? ⟨b, off + (idxR r x y).toNat * 4 + 1, none⟩ = some (.int .u8 (F x y).g) ∧ w.cell? ⟨b, off + (idxR r x y).toNat * 4 + 2, none⟩ = some (.int .u8 (F x y).b) ∧ w.cell? ⟨b, off + (idxR r x y).toNat * 4 + 3, none⟩ = some (.int .u8 (F x y).a) := by
  have hi := h.good.idx k
  rw [← h.count] at hi
  have := h.pix.px hi
  rw [ptX_idx k, ptY_idx k] at this
  exact this
theorem bufAt_zero (w : World) : BufAt w zeroR none 0 0 noF := ⟨goodR_zero, cnt_zero.symm, fits_no _, IsPix.nil w _⟩
/-- A buffer that is right is one. -/
theorem bufAt_of {f : Nat → P4} (hg : GoodR r) (hc : len = cntR r) (h : IsPix w a len cap f) : BufAt w r a len cap (imgOf r f) :=
  ⟨hg, hc, fits_imgOf hg (fun i hi => h.ok i (by omega)), h.congr fun i hi => (imgOf_pt hg (by omega)).symm⟩
end

theorem grownBy_setCells (w : World) (b o : Nat) (vs : List Value) : w.grownBy (w.setCells b o vs) (some b) :=
  ⟨(same_setCells b vs o w).1, (same_setCells b vs o w).2.1, (same_setCells b vs o w).2.2, by rw [size_setCells]; exact Nat.le_refl _, fun k _ hne => heap_setCells b vs o w k fun e => hne (by rw [e])⟩
theorem grownBy_grows {w w1 w2 : World} {row : Option Nat} (h : w.grownBy w1 row) (hg : Grows w1 w2) : w.grownBy w2 row :=
  h.trans ⟨hg.below.os, hg.below.tape, hg.below.output, hg.below.size, fun k hk _ => hg.below.block k hk⟩
theorem grows_grownBy {w w1 w2 : World} {row : Option Nat} (hg : Grows w w1) (h : w1.grownBy w2 row) : w.grownBy w2 row :=
  World.grownBy.trans (⟨hg.below.os, hg.below.tape, hg.below.output, hg.below.size, fun k hk _ => hg.below.block k hk⟩) h
theorem grownBy_of_grows {w w1 : World} (hg : Grows w w1) (row : Option Nat) : w.grownBy w1 row := grows_grownBy hg (World.grownBy.refl w1 row)
/-- What has been written lies in new blocks. -/
theorem Grows.grown {w w1 w2 : World} {row : Option Nat} (hg : Grows w w1) (h : w1.grownBy w2 row) (hr : ∀ k, row = some k → w.heap.size ≤ k) : Grows w w2 :=
  .of_below (hg.below.grown h hg.below.size hr)

/-- A pixel is written. -/
theorem IsPix.set {w : World} {a : Option Addr} {len cap : Nat} {f : Nat → P4} (h : IsPix w a len cap f) {b off k : Nat} (ha : a = some ⟨b, off, none⟩) (hk : k < len) {p : P4} (hp : okP p) :
    IsPix (w.setCells b (off + k * 4) (pxC p)) a len cap (fun i => if i = k then p else f i) := by
  refine ⟨h.le, h.most, fun i hi => ?_, fun h0 => ?_⟩
  · split
    · exact hp
    · exact h.ok i hi
  · obtain ⟨b', off', e, hb, hc⟩ := h.cells h0
    rw [ha] at e
    obtain ⟨rfl, rfl⟩ : b = b' ∧ off = off' := by simpa using e
    refine ⟨b, off, ha, by rw [size_setCells]; exact hb, fun i c hi hc4 => ?_⟩
    by_cases hik : i = k
    · subst hik
      rw [if_pos rfl, ← Nat.add_assoc]
      have := World.cell?_setCells_in b (pxC p) (off + i * 4) w (fun j hj => by
        have := hc i j hi (by rw [pxC_length] at hj; exact hj)
        rw [Nat.add_assoc, this]; rfl) c (by rw [pxC_length]; exact hc4)
      rw [this]
      have e2 := pxC_at p hc4
      rw [List.getElem?_eq_getElem (by rw [pxC_length]; exact hc4)] at e2
      exact e2
    · rw [if_neg hik, World.cell?_setCells_out b (pxC p) (off + k * 4) w _ (fun _ _ => by rw [pxC_length]; show off + (i * 4 + c) < off + k * 4 ∨ off + k * 4 + 4 ≤ off + (i * 4 + c); omega)]
      exact hc i c hi hc4

/-- A pixel of a buffer is written. -/
theorem BufAt.set {w : World} {r : R} {a : Option Addr} {len cap : Nat} {F : Img} (h : BufAt w r a len cap F) {b off : Nat} (ha : a = some ⟨b, off, none⟩) {x y : Int} (k : hasR r x y = true) {p : P4} (hp : okP p) :
    BufAt (w.setCells b (off + (idxR r x y).toNat * 4) (pxC p)) r a len cap (putF r F x y p) := by
  refine ⟨h.good, h.count, h.fits.put hp, (h.pix.set ha (by rw [h.count]; exact h.good.idx k) hp).congr fun i hi => ?_⟩
  have hpt := h.good.pt (r := r) (i := i) (by rw [← h.count]; exact hi)
  have hid := idx_pt (i := i) (hasR_not_empty k)
  have h0 := (idxR_bd k).2.1
  unfold putF
  by_cases hik : i = (idxR r x y).toNat
  · rw [if_pos hik, if_pos]
    refine ⟨k, ?_, ?_⟩
    · rw [hik]; exact ptX_idx k
    · rw [hik]; exact ptY_idx k
  · rw [if_neg hik, if_neg]
    rintro ⟨_, h1, h2⟩
    rw [h1, h2] at hid
    omega

/-! A block that is known whole. -/
def Blk (w : World) (n : Nat) (t : TypeId) (cs : Array Value) : Prop := w.heap[n]? = some (.cells cs t (0, 0))
section
variable {w w' : World} {n : Nat} {t : TypeId} {cs : Array Value}
theorem Blk.lt (h : Blk w n t cs) : n < w.heap.size := (Array.getElem?_eq_some_iff.1 h).1
theorem Blk.grows (h : Blk w n t cs) (hg : Grows w w') : Blk w' n t cs := (hg.below.block n h.lt).trans h
theorem Blk.grown {row : Option Nat} (h : Blk w n t cs) (hg : w.grownBy w' row) (hne : some n ≠ row) : Blk w' n t cs := (hg.block n h.lt hne).trans h
theorem Blk.cell (h : Blk w n t cs) (i : Nat) : w.cell? ⟨n, i, none⟩ = cs[i]? := cell_of_row w n i cs t (0, 0) h
theorem Blk.frozen (h : Blk w n t cs) (i : Nat) : w.frozen? ⟨n, i, none⟩ = false := by
  unfold Blk at h
  simp [World.frozen?, h]
theorem Blk.c1 {v0 : Value} (h : Blk w n t #[v0]) : w.cell? ⟨n, 0, none⟩ = some v0 ∧ ∀ i, w.frozen? ⟨n, i, none⟩ = false := ⟨h.cell 0, h.frozen⟩
theorem Blk.c4 {v0 v1 v2 v3 : Value} (h : Blk w n t #[v0, v1, v2, v3]) : w.cell? ⟨n, 0, none⟩ = some v0 ∧ w.cell? ⟨n, 1, none⟩ = some v1 ∧ w.cell? ⟨n, 2, none⟩ = some v2 ∧ w.cell? ⟨n, 3, none⟩ = some v3 ∧ ∀ i, w.frozen? ⟨n, i, none⟩ = false :=
  ⟨h.cell 0, h.cell 1, h.cell 2, h.cell 3, h.frozen⟩
theorem Blk.c5 {v0 v1 v2 v3 v4 : Value} (h : Blk w n t #[v0, v1, v2, v3, v4]) : w.cell? ⟨n, 0, none⟩ = some v0 ∧ w.cell? ⟨n, 1, none⟩ = some v1 ∧ w.cell? ⟨n, 2, none⟩ = some v2 ∧ w.cell? ⟨n, 3, none⟩ = some v3 ∧ w.cell? ⟨n, 4, none⟩ = some v4 ∧ ∀ i, w.frozen? ⟨n, i, none⟩ = false :=
  ⟨h.cell 0, h.cell 1, h.cell 2, h.cell 3, h.cell 4, h.frozen⟩
end

/-- What is answered: a buffer in new memory. -/
def RetBuf (w : World) (r : R) (F : Img) (e : Ending) (w' : World) : Prop :=
  ∃ a len cap, e = .returned (.agg #[.int .i64 r.x0, .int .i64 r.y0, .int .i64 r.x1, .int .i64 r.y1, .slice a len cap]) ∧ Grows w w' ∧ Hid (BufAt w' r a len cap F ∧ Open w' a ∧ ∀ x, a = some x → w.heap.size ≤ x.block)

/-! New rows of nothing. -/
theorem made_at (z : Value) (n j : Nat) (h : j < n) : (madeCells #[z, z, z, z] n)[j]? = some z := by
  unfold madeCells
  simp only [Array.getElem?_map, Array.getElem?_range, h]
  have hm : j % 4 < 4 := Nat.mod_lt _ (by omega)
  show some ((#[z, z, z, z] : Array Value)[j % 4]!) = some z
  have e : ∀ k, k < 4 → (#[z, z, z, z] : Array Value)[k]! = z := by
    intro k hk
    match k, hk with
    | 0, _ => rfl
    | 1, _ => rfl
    | 2, _ => rfl
    | 3, _ => rfl
  rw [e _ hm]
theorem open_of_block {w : World} {b off : Nat} {t : TypeId} {cs : Array Value} (h : Blk w b t cs) : Open w (some ⟨b, off, none⟩) := fun x hx => by
  cases hx
  exact ⟨h.lt, h.frozen⟩
theorem bufAt_made {w : World} {b : Nat} {t : TypeId} {r : R} (hg : GoodR r) (hm : cntR r ≤ 140737488355328) (h : Blk w b t (madeCells #[.int .u8 0, .int .u8 0, .int .u8 0, .int .u8 0] (cntR r * 4))) : BufAt w r (some ⟨b, 0, none⟩) (cntR r) (cntR r) noF := by
  refine ⟨hg, rfl, fits_no r, ⟨Nat.le_refl _, by omega, fun i hi => okP_no, fun h0 => ⟨b, 0, rfl, h.lt, fun i c hi hc => ?_⟩⟩⟩
  rw [h.cell, made_at _ _ _ (by omega)]
  show _ = some (Value.int IntKind.u8 (chan noP c))
  rw [chan_no]

/-! A row of a buffer. -/
theorem idx_add (r : R) (x y k : Int) : idxR r (x + k) y = idxR r x y + k := by unfold idxR; omega
section
variable {w w' : World} {r : R} {a : Option Addr} {len cap : Nat} {F G : Img}
theorem BufAt.pxk (h : BufAt w r a len cap F) {x y : Int} {k : Nat} (h0 : hasR r x y = true) (hk : hasR r (x + k) y = true) : ∃ b off, a = some ⟨b, off, none⟩ ∧ b < w.heap.size ∧ okP (F (x + k) y) ∧
    w.cell? ⟨b, off + (idxR r x y).toNat * 4 + k * 4, none⟩ = some (.int .u8 (F (x + k) y).r) ∧ w.cell? ⟨b, off + (idxR r x y).toNat * 4 + k * 4 + 1, none⟩ = some (.int .u8 (F (x + k) y).g) ∧ w.cell? ⟨b, off + (idxR r x y).toNat * 4 + k * 4 + 2, none⟩ = some (.int .u8 (F (x + k) y).b) ∧ w.cell? ⟨b, off + (idxR r x y).toNat * 4 + k * 4 + 3, none⟩ = some (.int .u8 (F (x + k) y).a) := by
  have hb := (idxR_bd h0).2.1
  have e : (idxR r (x + k) y).toNat * 4 = (idxR r x y).toNat * 4 + k * 4 := by rw [idx_add]; omega
  have := h.px hk
  rw [e] at this
  simpa only [Nat.add_assoc] using this
theorem BufAt.setk (h : BufAt w r a len cap F) {b off : Nat} (ha : a = some ⟨b, off, none⟩) {x y : Int} {k : Nat} (h0 : hasR r x y = true) (hk : hasR r (x + k) y = true) {p : P4} (hp : okP p) :
    BufAt (w.setCells b (off + (idxR r x y).toNat * 4 + k * 4) (pxC p)) r a len cap (putF r F (x + k) y p) := by
  have hb := (idxR_bd h0).2.1
  have e : off + (idxR r (x + k) y).toNat * 4 = off + (idxR r x y).toNat * 4 + k * 4 := by rw [idx_add]; omega
  have := h.set ha hk hp
  rw [e] at this
  exact this
end
end Go.Proofs.YtklcmlbkhjcaiaaDoor
