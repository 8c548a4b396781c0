/- Rows of pixels that grow by append, in memory: what holds while a buffer is built, pixel by pixel. -/
import Derived.Test.YtklcmlbkhjcaiaaDoorBufC
import Derived.Test.YtklcmlbkhjcaiaaDoorBld
import Derived.Maps.AppendAt
import Derived.Laws.MakeOwn





namespace Go.Proofs.YtklcmlbkhjcaiaaDoor
open Go.RowKit
set_option linter.unusedVariables false

section
variable {w : World} {n : Nat} {t : TypeId}
theorem Blk.far {cs : Array Value} (h : Blk w n t cs) {p : Addr} (hp : n ≠ p.block) (u : Value) : Blk (w.setCell p u) n t cs := (Below.heap_setCell w p u n hp).trans h
theorem Blk.set_ {cs : Array Value} (h : Blk w n t cs) (i : Nat) (u : Value) : Blk (w.setCell ⟨n, i, none⟩ u) n t (cs.setIfInBounds i u) := by
  unfold Blk at h ⊢
  simp [World.setCell, Array.getElem?_modify, h]
theorem Blk.set1of5 {u0 u1 u2 u3 u4 : Value} (h : Blk w n t #[u0, u1, u2, u3, u4]) (v : Value) : Blk (w.setCell ⟨n, 4, none⟩ v) n t #[u0, u1, u2, u3, v] := h.set_ 4 v
theorem Blk.set5 {u0 u1 u2 u3 u4 : Value} (h : Blk w n t #[u0, u1, u2, u3, u4]) (v0 v1 v2 v3 v4 : Value) :
    Blk (((((w.setCell ⟨n, 0, none⟩ v0).setCell ⟨n, 1, none⟩ v1).setCell ⟨n, 2, none⟩ v2).setCell ⟨n, 3, none⟩ v3).setCell ⟨n, 4, none⟩ v4) n t #[v0, v1, v2, v3, v4] := ((((h.set_ 0 v0).set_ 1 v1).set_ 2 v2).set_ 3 v3).set_ 4 v4
theorem Blk.set4 {u0 u1 u2 u3 : Value} (h : Blk w n t #[u0, u1, u2, u3]) (v0 v1 v2 v3 : Value) :
    Blk ((((w.setCell ⟨n, 0, none⟩ v0).setCell ⟨n, 1, none⟩ v1).setCell ⟨n, 2, none⟩ v2).setCell ⟨n, 3, none⟩ v3) n t #[v0, v1, v2, v3] := (((h.set_ 0 v0).set_ 1 v1).set_ 2 v2).set_ 3 v3
end
theorem grownBy_setCell {w w' : World} {row : Option Nat} (h : w.grownBy w' row) {p : Addr} (hp : row = some p.block ∨ w.heap.size ≤ p.block) (u : Value) : w.grownBy (w'.setCell p u) row :=
  ⟨h.os, h.tape, h.output, by simpa [World.setCell] using h.size, fun k hk hne => (Below.heap_setCell w' p u k (by
    rintro rfl
    rcases hp with hp | hp
    · exact hne hp.symm
    · omega)).trans (h.block k hk hne)⟩
theorem ownsRow_far {w : World} {base : Nat} {e : TypeId} {size n : Nat} {a : Option Addr} {c : Nat} {xs : List Value} (h : w.ownsRow base e size (.slice a n c) n xs) {p : Addr} (hp : blkOf a ≠ some p.block) (u : Value) : (w.setCell p u).ownsRow base e size (.slice a n c) n xs := by
  refine ⟨h.1, ?_⟩
  rcases h.2 with h2 | ⟨b, c', cur, hv, hb, hg, h3⟩
  · exact .inl h2
  · refine .inr ⟨b, c', cur, hv, hb, (Below.heap_setCell w p u b ?_).trans hg, h3⟩
    injection hv with hv
    subst hv
    rintro rfl
    exact hp rfl
theorem own_lt {w : World} {base : Nat} {e : TypeId} {size n : Nat} {a : Option Addr} {c : Nat} {xs : List Value} (h : w.ownsRow base e size (.slice a n c) n xs) : ∀ g, blkOf a = some g → base ≤ g ∧ g < w.heap.size := by
  rcases h.2 with ⟨hv, _⟩ | ⟨b, c', cur, hv, hb, hg, _⟩
  · injection hv with hv
    subst hv
    intro g hg
    cases hg
  · injection hv with hv
    subst hv
    intro g hg'
    cases hg'
    exact ⟨hb, (Array.getElem?_eq_some_iff.1 hg).1⟩

theorem grownBy_then {a b c : World} {row row' : Option Nat} (h : a.grownBy b row) (k : b.grownBy c row') (hr : ∀ j, row' = some j → a.heap.size ≤ j ∨ row = some j) : a.grownBy c row :=
  ⟨k.os.trans h.os, k.tape.trans h.tape, k.output.trans h.output, Nat.le_trans h.size k.size, fun i hi hne => (k.block i (Nat.lt_of_lt_of_le hi h.size) (fun e => by
    rcases hr i e.symm with h1 | h1
    · omega
    · exact hne h1.symm)).trans (h.block i hi hne)⟩

/-- A world, named. -/
theorem wp_name {P : Program} {c : Code} {Q : Exit → Act → World → Prop} {a : Act} {w : World} (h : ∀ W, W = w → c.wp P Q a W) : c.wp P Q a w := h w rfl

/-- A buffer in a variable, that is being built: its row lies in blocks from the base on. -/
structure AppSt (w wr : World) (o : Nat) (r : R) (a : Option Addr) (k cap : Nat) (f : Nat → P4) : Prop where
  lt : o < w.heap.size
  by_ : w.grownBy wr (some o)
  ob : Blk wr o 35 #[.int .i64 r.x0, .int .i64 r.y0, .int .i64 r.x1, .int .i64 r.y1, .slice a k cap]
  own : wr.ownsRow w.heap.size 40 4 (.slice a k cap) k (cellsP f k)
section
variable {w wr w' : World} {o : Nat} {r : R} {a : Option Addr} {k cap : Nat} {f : Nat → P4}
theorem ownsRow_grows {base : Nat} {e : TypeId} {size n : Nat} {v : Value} {xs : List Value} (h : w.ownsRow base e size v n xs) (g : Grows w w') : w'.ownsRow base e size v n xs := by
  refine ⟨h.1, ?_⟩
  rcases h.2 with h2 | ⟨b, c, cur, hv, hb, hg, h3⟩
  · exact .inl h2
  · exact .inr ⟨b, c, cur, hv, hb, (g.below.block b (Array.getElem?_eq_some_iff.1 hg).1).trans hg, h3⟩
theorem AppSt.grows (h : AppSt w wr o r a k cap f) (g : Grows wr w') : AppSt w w' o r a k cap f :=
  ⟨h.lt, grownBy_grows h.by_ g, h.ob.grows g, ownsRow_grows h.own g⟩
theorem AppSt.blk (h : AppSt w wr o r a k cap f) {n : Nat} {t : TypeId} {cs : Array Value} (hb : Blk w n t cs) (hn : n ≠ o) : Blk wr n t cs := hb.grown h.by_ (fun e => hn (by injection e))
theorem AppSt.buf (h : AppSt w wr o r a k cap f) {rf : R} {af : Option Addr} {lf cf : Nat} {G : Img} (hb : BufAt w rf af lf cf G) (hn : ∀ x, af = some x → x.block ≠ o) : BufAt wr rf af lf cf G := hb.grown h.by_ (fun _ x hx e => hn x hx (by injection e))
/-- The row is a row of pixels. -/
theorem isPix_own {base : Nat} {e : TypeId} {a : Option Addr} {k cap : Nat} {f : Nat → P4} (h : w.ownsRow base e 4 (.slice a k cap) k (cellsP f k)) (hok : ∀ i, i < k → okP (f i)) : IsPix w a k cap f ∧ Open w a ∧ ∀ x, a = some x → base ≤ x.block := by
  rcases h.2 with ⟨hv, h0⟩ | ⟨g, c, cur, hv, hB, hg, hn, hc, hsz, htk⟩
  · injection hv with e1 e2 e3
    subst e1 e2 e3
    exact ⟨IsPix.nil w f, Open.none_ w, fun x hx => by cases hx⟩
  · injection hv with e1 _ e3
    subst e1 e3
    have hlt := (Array.getElem?_eq_some_iff.1 hg).1
    refine ⟨⟨hn, by unfold maxLen at hc; omega, hok, fun h0 => ⟨g, 0, rfl, hlt, fun i c' hi hc' => ?_⟩⟩, open_of_block hg, fun x hx => by cases hx; exact hB⟩
    have e := cellsP_at f k i c' hi hc'
    rw [← htk, List.getElem?_take_of_lt (by omega), Array.getElem?_toList] at e
    rw [cell_of_row w g _ cur _ _ hg, Nat.zero_add]
    exact e
end
/-- One pixel more: the row's new value is stored into the variable. -/
theorem AppSt.push {w wr w' w1 : World} {o : Nat} {r : R} {a : Option Addr} {k cap g c : Nat} {f : Nat → P4} (h : AppSt w wr o r a k cap f) (g1 : Grows wr w')
    (h1 : w1.ownsRow w.heap.size 40 4 (.slice (some ⟨g, 0, none⟩) (k + 1) c) (k + 1) (cellsP f (k + 1))) (h2 : w'.grownBy w1 (blkOf a)) :
    Blk w1 o 35 #[.int .i64 r.x0, .int .i64 r.y0, .int .i64 r.x1, .int .i64 r.y1, .slice a k cap] ∧ AppSt w (w1.setCell ⟨o, 4, none⟩ (.slice (some ⟨g, 0, none⟩) (k + 1) c)) o r (some ⟨g, 0, none⟩) (k + 1) c f := by
  have hl := own_lt h.own
  have hg := own_lt h1 g rfl
  have B : Blk w1 o 35 #[.int .i64 r.x0, .int .i64 r.y0, .int .i64 r.x1, .int .i64 r.y1, .slice a k cap] := (h.ob.grows g1).grown h2 (fun e => by have := hl o e.symm; have := h.lt; omega)
  refine ⟨B, h.lt, grownBy_setCell (grownBy_then (grownBy_grows h.by_ g1) h2 (fun j hj => .inl (hl j hj).1)) (.inl rfl) _, B.set1of5 _, ownsRow_far h1 (fun e => ?_) _⟩
  have := h.lt
  injection e with e
  simp at e
  omega
/-- The same, the whole variable being stored. -/
theorem AppSt.push5 {w wr w' w1 : World} {o : Nat} {r : R} {a : Option Addr} {k cap g c : Nat} {f : Nat → P4} (h : AppSt w wr o r a k cap f) (g1 : Grows wr w')
    (h1 : w1.ownsRow w.heap.size 40 4 (.slice (some ⟨g, 0, none⟩) (k + 1) c) (k + 1) (cellsP f (k + 1))) (h2 : w'.grownBy w1 (blkOf a)) :
    Blk w1 o 35 #[.int .i64 r.x0, .int .i64 r.y0, .int .i64 r.x1, .int .i64 r.y1, .slice a k cap] ∧
    AppSt w (((((w1.setCell ⟨o, 0, none⟩ (.int .i64 r.x0)).setCell ⟨o, 1, none⟩ (.int .i64 r.y0)).setCell ⟨o, 2, none⟩ (.int .i64 r.x1)).setCell ⟨o, 3, none⟩ (.int .i64 r.y1)).setCell ⟨o, 4, none⟩ (.slice (some ⟨g, 0, none⟩) (k + 1) c)) o r (some ⟨g, 0, none⟩) (k + 1) c f := by
  have hl := own_lt h.own
  have hg := own_lt h1 g rfl
  have hlt := h.lt
  have B : Blk w1 o 35 #[.int .i64 r.x0, .int .i64 r.y0, .int .i64 r.x1, .int .i64 r.y1, .slice a k cap] := (h.ob.grows g1).grown h2 (fun e => by have := hl o e.symm; omega)
  have hn : blkOf (some (⟨g, 0, none⟩ : Addr)) ≠ some o := fun e => by simp at e; omega
  have hb := grownBy_then (grownBy_grows h.by_ g1) h2 (fun j hj => .inl (hl j hj).1)
  refine ⟨B, h.lt, ?_, B.set5 _ _ _ _ _, ?_⟩
  · iterate 4 (refine grownBy_setCell ?_ (.inl rfl) _)
    exact grownBy_setCell hb (.inl rfl) _
  · iterate 4 (refine ownsRow_far ?_ hn _)
    exact ownsRow_far h1 hn _
theorem AppSt.start {w : World} {o : Nat} {r : R} (f : Nat → P4) (h : Blk w o 35 #[.int .i64 r.x0, .int .i64 r.y0, .int .i64 r.x1, .int .i64 r.y1, .slice none 0 0]) : AppSt w w o r none 0 0 f :=
  ⟨h.lt, World.grownBy.refl w _, h, rfl, .inl ⟨rfl, rfl⟩⟩
/-- What has been built: a buffer. -/
theorem bufAt_own {w : World} {base : Nat} {e : TypeId} {r : R} {a : Option Addr} {cap : Nat} {G : Img} (hr : GoodR r) (hG : ∀ x y, hasR r x y = true → okP (G x y)) (h : w.ownsRow base e 4 (.slice a (cntR r) cap) (cntR r) (cellsP (fun i => G (ptX r i) (ptY r i)) (cntR r))) :
    BufAt w r a (cntR r) cap (cutF r G) ∧ Open w a ∧ ∀ x, a = some x → base ≤ x.block := by
  obtain ⟨h1, h2, h3⟩ := isPix_own h (fun i hi => hG _ _ (hr.pt hi))
  refine ⟨⟨hr, rfl, Fits.cut (s := r) hG, h1.congr fun i hi => ?_⟩, h2, h3⟩
  rw [cutF_in (hr.pt hi)]

/-- All pixels are there: the variable's value is the result. -/
theorem AppSt.done {w00 w wr : World} {o n : Nat} {r : R} {a : Option Addr} {k cap : Nat} {F : Img} (h : AppSt w wr o r a k cap (fun i => F (ptX r i) (ptY r i))) (hg : GoodR r) (hF : Fits r F) (hk : (k : Int) = idxR r r.x0 r.y1)
    (g : Grows w00 w) (ho : w00.heap.size ≤ o) (hn : w00.heap.size ≤ n) (hn2 : n < w.heap.size) (v0 v1 v2 v3 v4 : Value) :
    Grows w00 (((((wr.setCell ⟨n, 0, none⟩ v0).setCell ⟨n, 1, none⟩ v1).setCell ⟨n, 2, none⟩ v2).setCell ⟨n, 3, none⟩ v3).setCell ⟨n, 4, none⟩ v4) ∧
    Hid (BufAt (((((wr.setCell ⟨n, 0, none⟩ v0).setCell ⟨n, 1, none⟩ v1).setCell ⟨n, 2, none⟩ v2).setCell ⟨n, 3, none⟩ v3).setCell ⟨n, 4, none⟩ v4) r a k cap F ∧
      Open (((((wr.setCell ⟨n, 0, none⟩ v0).setCell ⟨n, 1, none⟩ v1).setCell ⟨n, 2, none⟩ v2).setCell ⟨n, 3, none⟩ v3).setCell ⟨n, 4, none⟩ v4) a ∧ ∀ x, a = some x → w00.heap.size ≤ x.block) := by
  have hsz := g.below.size
  have hl := own_lt h.own
  have hgw : Grows w00 wr := g.grown h.by_ (fun j hj => by injection hj with hj; omega)
  have hne : blkOf a ≠ some n := fun e => by have := (hl n e).1; omega
  have hkc : k = cntR r := by have := hg.cnt; rw [idx_last] at hk; omega
  subst hkc
  refine ⟨?_, ?_⟩
  · iterate 4 (refine Grows.setCell ?_ hn _)
    exact hgw.setCell hn _
  · have hown : (((((wr.setCell ⟨n, 0, none⟩ v0).setCell ⟨n, 1, none⟩ v1).setCell ⟨n, 2, none⟩ v2).setCell ⟨n, 3, none⟩ v3).setCell ⟨n, 4, none⟩ v4).ownsRow w.heap.size 40 4 (.slice a (cntR r) cap) (cntR r) (cellsP (fun i => F (ptX r i) (ptY r i)) (cntR r)) := by
      iterate 4 (refine ownsRow_far ?_ hne _)
      exact ownsRow_far h.own hne _
    obtain ⟨h1, h2, h3⟩ := bufAt_own hg (fun x y _ => hF.ok x y) hown
    rw [hF.cut_eq] at h1
    exact ⟨h1, h2, fun x hx => by have := h3 x hx; omega⟩

/-- A buffer that was there before is kept where a newer block is written. -/
theorem BufAt.far {w0 w w' : World} {o : Nat} {r : R} {a : Option Addr} {len cap : Nat} {F : Img} (h0 : BufAt w0 r a len cap F) (h : BufAt w r a len cap F) (g : w.grownBy w' (some o)) (ho : w0.heap.size ≤ o) : BufAt w' r a len cap F := by
  by_cases hl : 0 < len
  · obtain ⟨b, off, rfl, hb, -⟩ := h0.pix.cells hl
    exact h.grown g (fun _ x hx e => by cases hx; injection e with e; simp at e; omega)
  · exact ⟨h.good, h.count, h.fits, h.pix.le, h.pix.most, h.pix.ok, fun hl' => absurd hl' hl⟩

/-- Where one block of the call's own holds something else: the rest is the same. -/
theorem swap_block {w : World} (o o' : Obj) (g : Growth) (k : Nat) (h : k ≠ w.heap.size) : (grow (w.alloc o') g).heap[k]? = (grow (w.alloc o) g).heap[k]? := by
  have e : (w.alloc o').heap[k]? = (w.alloc o).heap[k]? := by unfold World.alloc; simp [Array.getElem?_push, h]
  by_cases hk : k < w.heap.size + 1
  · rw [heap_grow _ _ _ (by simpa using hk), heap_grow _ _ _ (by simpa using hk)]
    exact e
  · unfold grow
    simp only [Array.getElem?_append]
    rw [if_neg (by simpa using hk), if_neg (by simpa using hk)]
    simp
theorem swap_ret {w : World} {o o' : Obj} {g : Growth} {r : R} {a : Option Addr} {len cap B B0 : Nat} {F : Img} (h : BufAt (grow (w.alloc o) g) r a len cap F ∧ Open (grow (w.alloc o) g) a ∧ ∀ x, a = some x → B ≤ x.block) (hB : w.heap.size < B) (hB0 : B0 ≤ B) :
    Hid (BufAt (grow (w.alloc o') g) r a len cap F ∧ Open (grow (w.alloc o') g) a ∧ ∀ x, a = some x → B0 ≤ x.block) := by
  obtain ⟨h1, h2, h3⟩ := h
  have hs : (grow (w.alloc o) g).heap.size ≤ (grow (w.alloc o') g).heap.size := by simp
  exact ⟨⟨h1.good, h1.count, h1.fits, h1.pix.keep hs (fun _ x hx _ => swap_block o o' g _ (by have := h3 x hx; omega))⟩, h2.keep hs (fun x hx _ => swap_block o o' g _ (by have := h3 x hx; omega)), fun x hx => by have := h3 x hx; omega⟩

/-- A pixel appended to a row of the call's own: as the walk meets it. -/
theorem wpList_append_one {ops : Array Oper} {rest : List Oper} {o : Oper} {a : Act} {w : World} {Q : Exit → Act → World → Prop} (hgd : o.guard = none) (s x : Operand)
    (ho : o.op = .call { callee := .builtin .append, args := #[s, x], argTypes := #[33, 33] })
    (base : Nat) (ad : Option Addr) (k cap : Nat) (f : Nat → P4) (p : P4) (hs : a.eval s = .slice ad k cap) (hown : w.ownsRow base 40 4 (.slice ad k cap) k (cellsP f k))
    (n c : Nat) (hx : a.eval x = .slice (some ⟨n, 0, none⟩) 1 c) (hn : Blk w n 40 #[.int .u8 p.r, .int .u8 p.g, .int .u8 p.b, .int .u8 p.a]) (hp : f k = p) (hk : k ≤ 30000000000000) (hbase : base ≤ w.heap.size)
    (h : ∀ g cap' w', w'.ownsRow base 40 4 (.slice (some ⟨g, 0, none⟩) (k + 1) cap') (k + 1) (cellsP f (k + 1)) → w.grownBy w' (blkOf ad) → (blkOf ad = some g ∨ g = w.heap.size) → g < w'.heap.size → wpList Tryd.prog ops Q rest (a.put o.dst (.slice (some ⟨g, 0, none⟩) (k + 1) cap')) w') : wpList Tryd.prog ops Q (o :: rest) a w := by
  obtain ⟨i, hi, hz, hsz, hb⟩ := info_parts px_parts
  subst hp
  refine wpList_append_lies w hgd s x 33 ho base 40 i _ 4 4 Tryd.underlying33 hi hz hsz hb rfl (by omega) (.slice ad k cap) k (cellsP f k) hs hown ⟨n, 0, none⟩ 1 c (pxC (f k)) hx rfl (fun j u hu => ?_) (fun u hu => pxC_one hu) (by omega) (by unfold maxLen; omega) (by omega) hbase w.heap.size rfl ?_
  · rw [Go.Addr.add_mid, Nat.zero_add, hn.cell]
    simpa [pxC] using hu
  · intro g cap' w' h1 h2 h3 h4
    refine h g cap' w' h1 ?_ ?_ h4
    · cases ad <;> exact h2
    · cases ad
      · exact h3.imp (fun e => by simp [Value.ownBlock] at e) id
      · exact h3

theorem make_px (n : Nat) (hn : n ≤ 35184372088832) (w : World) :
    (Instr.makeSlice 33 (.int .i64 (n : Int)) (.int .i64 (n : Int))).run Tryd.prog w = .ok (.slice (some ⟨w.heap.size, 0, none⟩) n n) (w.alloc (.cells (madeCells #[.int .u8 0, .int .u8 0, .int .u8 0, .int .u8 0] (n * 4)) 40)) := by
  obtain ⟨i, hi, hz, hs, hb⟩ := info_parts px_parts
  have hr := run_make (P := Tryd.prog) w 33 40 i _ Tryd.underlying33 hi hz .i64 .i64 n n (by omega) (by omega) (by rw [hb]; omega) (by omega)
  simp only [Int.toNat_natCast, hs] at hr
  exact hr

end Go.Proofs.YtklcmlbkhjcaiaaDoor
