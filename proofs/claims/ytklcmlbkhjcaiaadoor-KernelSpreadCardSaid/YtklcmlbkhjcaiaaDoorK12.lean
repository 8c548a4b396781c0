/- 'append([]api.Px{}, l...)': a row of pixels copied; and the law's own 'copied', 'right' of layer 5. -/
import Derived.Test.YtklcmlbkhjcaiaaDoorK14
import Derived.Test.YtklcmlbkhjcaiaaDoorMoveS
import Derived.Deep.RegionHeld3
import Derived.Deep.AppendLies
import Derived.Test.YtklcmlbkhjcaiaaDoorMoveO
import Derived.ArgAppend


namespace Go.Proofs.YtklcmlbkhjcaiaaDoor
open Go.RowKit
set_option linter.unusedVariables false

theorem run_append_of_nil {P : Program} (w : World) (base : Nat) (t ty e : TypeId) (i : TypeInfo) (size : Nat) (ht : P.underlying t = some (.slice e)) (hi : P.info? e = some i)
    (v : Value) (n : Nat) (xs : List Value) (hown : w.ownsRow base e size v n xs) (c : Nat) : (Builtin.append_ #[t, t] ty #[v, .slice none 0 c]).run P w = .ok v w := by
  rcases hown.2 with ⟨rfl, rfl⟩ | ⟨g, cap, cur, rfl, _, _, hnc, _⟩
  · simp [Builtin.append_, run_underlying ht, sizeOf, typeInfo, hi, Builtin.lenOf, Builtin.firstCells]
  · simp [Builtin.append_, run_underlying ht, sizeOf, typeInfo, hi, Builtin.lenOf, Builtin.firstCells, hnc, storeCells]

theorem ownsRow_form {w : World} {base : Nat} {e : TypeId} {size n : Nat} {v : Value} {xs : List Value} (h : w.ownsRow base e size v n xs) : ∃ ad cap, v = .slice ad n cap := by
  rcases h.2 with ⟨rfl, rfl⟩ | ⟨g, cap, cur, rfl, _⟩
  · exact ⟨_, _, rfl⟩
  · exact ⟨_, _, rfl⟩

/-- A row of pixels appended to an empty slice: as the walk meets it. -/
theorem wpList_append_row {ops : Array Oper} {rest : List Oper} {o : Oper} {a : Act} {w : World} {Q : Exit → Act → World → Prop} (hgd : o.guard = none) (s x : Operand)
    (ho : o.op = .call { callee := .builtin .append, args := #[s, x], argTypes := #[33, 33] })
    (base n : Nat) (hs : a.eval s = .slice (some ⟨n, 0, none⟩) 0 0) (hn : Blk w n 40 #[]) (hb : base ≤ n)
    (ad : Option Addr) (len cap : Nat) (f : Nat → P4) (hx : a.eval x = .slice ad len cap) (hp : IsPix w ad len cap f) (hl : len ≤ 30000000000000)
    (h : ∀ ad' cap' w', w'.ownsRow base 40 4 (.slice ad' len cap') len (cellsP f len) → w.grownBy w' (some n) → wpList Tryd.prog ops Q rest (a.put o.dst (.slice ad' len cap')) w') : wpList Tryd.prog ops Q (o :: rest) a w := by
  obtain ⟨i, hi, hz, hsz, hby⟩ := info_parts px_parts
  have hown : w.ownsRow base 40 4 (.slice (some ⟨n, 0, none⟩) 0 0) 0 [] := ⟨rfl, .inr ⟨n, 0, #[], rfl, hb, hn, Nat.le_refl _, Nat.zero_le _, rfl, rfl⟩⟩
  refine wpList_plain hgd fun K hK => ?_
  cases ad with
  | none =>
    have h0 : len = 0 := by
      rcases Nat.eq_zero_or_pos len with h0 | h0
      · exact h0
      · obtain ⟨b, off, e, _⟩ := hp.cells h0; cases e
    subst h0
    have hrun := run_append_of_nil (P := Tryd.prog) w base 33 o.type 40 i 4 Tryd.underlying33 hi _ 0 [] hown cap
    unfold Oper.wp execOp
    simp only [ho, resolve, invoke, builtin, Sem.run_bind, Sem.run_pure, Result.andThen_ok, List.map_toArray, List.map_cons, List.map_nil, hs, hx, hrun]
    exact hK _ _ (h _ _ w hown (World.grownBy.refl w _))
  | some ad =>
    obtain ⟨v', w', hrun, h2, h3, _, _⟩ := run_append_own_at (P := Tryd.prog) w base 33 o.type 40 i _ 4 4 Tryd.underlying33 hi hz hsz hby rfl (by omega) _ 0 [] hown ad len cap (cellsP f len) (by rw [cellsP_length])
      (fun j u hu => by
        obtain ⟨hj, rfl⟩ := cellsP_div hu
        obtain ⟨b, off, e, _, hc⟩ := hp.cells (by omega)
        cases e
        rw [Go.Addr.add_mid]
        have := hc (j / 4) (j % 4) (by omega) (by omega)
        rwa [show j / 4 * 4 + j % 4 = j from by omega] at this)
      (fun u hu => cellsP_one _ _ u hu) (by unfold maxLen; omega) (by omega) (by have := hn.lt; omega)
    rw [Nat.zero_add] at h2
    obtain ⟨ad', cap', rfl⟩ := ownsRow_form h2
    unfold Oper.wp execOp
    simp only [ho, resolve, invoke, builtin, Sem.run_bind, Sem.run_pure, Result.andThen_ok, List.map_toArray, List.map_cons, List.map_nil, hs, hx, hrun]
    exact hK _ _ (h _ _ w' h2 h3)


end Go.Proofs.YtklcmlbkhjcaiaaDoor
/- 'append([]api.Px{}, l...)' at a step of a region that draws its order: a row of pixels copied. -/




namespace Go.Proofs.YtklcmlbkhjcaiaaDoor
open Go.RowKit
set_option linter.unusedVariables false

theorem step_append_row {ops : Array Oper} {o : Oper} {a : Act} {w : World} {K : Act → World → Prop} {Q : Exit → Act → World → Prop} {E : Prop} (hw : Region.wanted o (yielded ops a.tmps) = true) (s x : Operand)
    (ho : o.op = .call { callee := .builtin .append, args := #[s, x], argTypes := #[33, 33] })
    (base n : Nat) (hs : a.eval s = .slice (some ⟨n, 0, none⟩) 0 0) (hn : Blk w n 40 #[]) (hb : base ≤ n)
    (ad : Option Addr) (len cap : Nat) (f : Nat → P4) (hx : a.eval x = .slice ad len cap) (hp : IsPix w ad len cap f) (hl : len ≤ 30000000000000)
    (h : ∀ ad' cap' w', w'.ownsRow base 40 4 (.slice ad' len cap') len (cellsP f len) → w.grownBy w' (some n) → K (a.put o.dst (.slice ad' len cap')) w') :
    if Region.wanted o (yielded ops a.tmps) = true then Oper.wp Tryd.prog o a w K Q else E := by
  rw [if_pos hw]
  obtain ⟨i, hi, hz, hsz, hby⟩ := info_parts px_parts
  have hown : w.ownsRow base 40 4 (.slice (some ⟨n, 0, none⟩) 0 0) 0 [] := ⟨rfl, .inr ⟨n, 0, #[], rfl, hb, hn, Nat.le_refl _, Nat.zero_le _, rfl, rfl⟩⟩
  cases ad with
  | none =>
    have h0 : len = 0 := by
      rcases Nat.eq_zero_or_pos len with h0 | h0
      · exact h0
      · obtain ⟨b, off, e, _⟩ := hp.cells h0; cases e
    subst h0
    have hrun := run_append_of_nil (P := Tryd.prog) w base 33 o.type 40 i 4 Tryd.underlying33 hi _ 0 [] hown cap
    unfold Oper.wp execOp
    simp only [ho, resolve, invoke, builtin, Sem.run_bind, Sem.run_pure, Result.andThen_ok, List.map_toArray, List.map_cons, List.map_nil, hs, hx, hrun]
    exact h _ _ w hown (World.grownBy.refl w _)
  | some ad =>
    obtain ⟨v', w', hrun, h2, h3, _, _⟩ := run_append_own_at (P := Tryd.prog) w base 33 o.type 40 i _ 4 4 Tryd.underlying33 hi hz hsz hby rfl (by omega) _ 0 [] hown ad len cap (cellsP f len) (by rw [cellsP_length])
      (fun j u hu => by
        obtain ⟨hj, rfl⟩ := cellsP_div hu
        obtain ⟨b, off, e, _, hc⟩ := hp.cells (by omega)
        cases e
        rw [Go.Addr.add_mid]
        have := hc (j / 4) (j % 4) (by omega) (by omega)
        rwa [show j / 4 * 4 + j % 4 = j from by omega] at this)
      (fun u hu => cellsP_one _ _ u hu) (by unfold maxLen; omega) (by omega) (by have := hn.lt; omega)
    rw [Nat.zero_add] at h2
    obtain ⟨ad', cap', rfl⟩ := ownsRow_form h2
    unfold Oper.wp execOp
    simp only [ho, resolve, invoke, builtin, Sem.run_bind, Sem.run_pure, Result.andThen_ok, List.map_toArray, List.map_cons, List.map_nil, hs, hx, hrun]
    exact h _ _ w' h2 h3
/-- What has been copied: a buffer in new memory. -/
theorem bufAt_copied {w : World} {base len cap : Nat} {r : R} {a : Option Addr} {F : Img} (hg : GoodR r) (hF : Fits r F) (hc : len = cntR r) (h : w.ownsRow base 40 4 (.slice a len cap) len (cellsP (fun i => F (ptX r i) (ptY r i)) len)) :
    BufAt w r a len cap F := by
  subst hc
  have := (bufAt_own hg (fun x y _ => hF.ok x y) h).1
  rwa [hF.cut_eq] at this

/-- What holds while a buffer's pixels are all overwritten. -/
structure KeepSt (w wr : World) (a : Option Addr) (len cap : Nat) : Prop where
  by_ : w.grownBy wr (blkOf a)
  pix : ∃ f, IsPix wr a len cap f
  open_ : Open wr a
theorem KeepSt.set {w wr : World} {b off len cap k : Nat} {f : Nat → P4} (h : KeepSt w wr (some ⟨b, off, none⟩) len cap) (hf : IsPix wr (some ⟨b, off, none⟩) len cap f) (hk : k < len) {p : P4} (hp : okP p) : KeepSt w (wr.setCells b (off + k * 4) (pxC p)) (some ⟨b, off, none⟩) len cap :=
  ⟨h.by_.trans (grownBy_setCells wr b (off + k * 4) (pxC p)), ⟨_, hf.set rfl hk hp⟩, h.open_.setCells _ _ _⟩
theorem Grows.five {w wr : World} {n : Nat} (h : Grows w wr) (hn : w.heap.size ≤ n) (v0 v1 v2 v3 v4 : Value) : Grows w (((((wr.setCell ⟨n, 0, none⟩ v0).setCell ⟨n, 1, none⟩ v1).setCell ⟨n, 2, none⟩ v2).setCell ⟨n, 3, none⟩ v3).setCell ⟨n, 4, none⟩ v4) := by
  iterate 4 (refine Grows.setCell ?_ hn _)
  exact h.setCell hn _
theorem Blk.far5 {wr : World} {n m : Nat} {t : TypeId} {cs : Array Value} (h : Blk wr m t cs) (hn : m ≠ n) (v0 v1 v2 v3 v4 : Value) : Blk (((((wr.setCell ⟨n, 0, none⟩ v0).setCell ⟨n, 1, none⟩ v1).setCell ⟨n, 2, none⟩ v2).setCell ⟨n, 3, none⟩ v3).setCell ⟨n, 4, none⟩ v4) m t cs := by
  iterate 4 (refine Blk.far ?_ hn _)
  exact h.far hn _
theorem ownsRow_far5 {w : World} {base : Nat} {e : TypeId} {size k n : Nat} {a : Option Addr} {c : Nat} {xs : List Value} (h : w.ownsRow base e size (.slice a k c) k xs) (hn : blkOf a ≠ some n) (v0 v1 v2 v3 v4 : Value) : (((((w.setCell ⟨n, 0, none⟩ v0).setCell ⟨n, 1, none⟩ v1).setCell ⟨n, 2, none⟩ v2).setCell ⟨n, 3, none⟩ v3).setCell ⟨n, 4, none⟩ v4).ownsRow base e size (.slice a k c) k xs := by
  iterate 4 (refine ownsRow_far ?_ hn _)
  exact ownsRow_far h hn _
end Go.Proofs.YtklcmlbkhjcaiaaDoor

/- Buffers in a row, laid one on top of the other: plain facts, and what a slice of buffers is. -/

namespace Go.Proofs.YtklcmlbkhjcaiaaDoor
open Go.RowKit
set_option linter.unusedVariables false

/-- A buffer that came in. -/
structure Bf where
  r : R
  a : Option Addr
  len : Nat
  cap : Nat
  f : Nat → P4
/-- A row of buffers, as it came in. -/
structure IsBufs (w : World) (a : Option Addr) (len cap : Nat) (g : Nat → Bf) : Prop where
  le : len ≤ cap
  most : cap ≤ 9223372036854775807
  pix : ∀ i, i < len → IsPix w (g i).a (g i).len (g i).cap (g i).f
  cells : 0 < len → ∃ b off, a = some ⟨b, off, none⟩ ∧ b < w.heap.size ∧ ∀ i, i < len → w.cell? ⟨b, off + i * 5, none⟩ = some (.int .i64 (g i).r.x0) ∧ w.cell? ⟨b, off + i * 5 + 1, none⟩ = some (.int .i64 (g i).r.y0) ∧ w.cell? ⟨b, off + i * 5 + 2, none⟩ = some (.int .i64 (g i).r.x1) ∧ w.cell? ⟨b, off + i * 5 + 3, none⟩ = some (.int .i64 (g i).r.y1) ∧ w.cell? ⟨b, off + i * 5 + 4, none⟩ = some (.slice (g i).a (g i).len (g i).cap)
section
variable {w w' : World} {a : Option Addr} {len cap : Nat} {g : Nat → Bf}
theorem IsBufs.keep (h : IsBufs w a len cap g) (hs : w.heap.size ≤ w'.heap.size) (hk : ∀ k, k < w.heap.size → w'.heap[k]? = w.heap[k]?) : IsBufs w' a len cap g :=
  ⟨h.le, h.most, fun i hi => (h.pix i hi).keep hs (fun _ x _ hx => hk _ hx), fun h0 => by
    obtain ⟨b, off, rfl, hb, hc⟩ := h.cells h0
    refine ⟨b, off, rfl, by omega, fun i hi => ?_⟩
    have e : ∀ c, w'.cell? ⟨b, c, none⟩ = w.cell? ⟨b, c, none⟩ := fun c => World.cell?_of_block (a := ⟨b, c, none⟩) (hk b hb)
    rw [e, e, e, e, e]
    exact hc i hi⟩
theorem IsBufs.grows (h : IsBufs w a len cap g) (hg : Grows w w') : IsBufs w' a len cap g := h.keep hg.below.size fun k hk => hg.below.block k hk
theorem IsBufs.nil (w : World) (g : Nat → Bf) : IsBufs w none 0 0 g := ⟨by omega, by omega, fun i hi => by omega, fun h => by omega⟩
theorem IsBufs.at (h : IsBufs w a len cap g) {k : Nat} (hk : k < len) : ∃ b off, a = some ⟨b, off, none⟩ ∧ b < w.heap.size ∧ w.cell? ⟨b, off + k * 5, none⟩ = some (.int .i64 (g k).r.x0) ∧ w.cell? ⟨b, off + k * 5 + 1, none⟩ = some (.int .i64 (g k).r.y0) ∧ w.cell? ⟨b, off + k * 5 + 2, none⟩ = some (.int .i64 (g k).r.x1) ∧ w.cell? ⟨b, off + k * 5 + 3, none⟩ = some (.int .i64 (g k).r.y1) ∧ w.cell? ⟨b, off + k * 5 + 4, none⟩ = some (.slice (g k).a (g k).len (g k).cap) := by
  obtain ⟨b, off, rfl, hb, hc⟩ := h.cells (by omega)
  obtain ⟨c0, c1, c2, c3, c4⟩ := hc k hk
  exact ⟨b, off, rfl, hb, c0, c1, c2, c3, c4⟩
end

/-- So many laid one on top of the other. -/
def mergeF (b : R) (F : Nat → Img) : Nat → Img
  | 0 => noF
  | k + 1 => cutF b (overF (F k) (mergeF b F k))
theorem mergeF_ok (b : R) (F : Nat → Img) : ∀ k x y, okP (mergeF b F k x y)
  | 0, x, y => okP_no
  | k + 1, x, y => cutF_ok (fun x y => overF_ok _ _ x y) _ x y
theorem merge_fits (b : R) (F : Nat → Img) : ∀ k, Fits b (mergeF b F k)
  | 0 => fits_no b
  | k + 1 => Fits.cut (s := b) (fun x y _ => overF_ok _ _ x y)
theorem upTo_put {g m : R} {G F : Img} {y x : Int} (hg : hasR g x y = true) (h : hasR m x y = true) : putF g (upTo m G y x F) x y (G x y) = upTo m G y (x + 1) F := by
  rw [← upTo_next h]
  funext u v
  unfold putF
  by_cases c : u = x ∧ v = y
  · obtain ⟨rfl, rfl⟩ := c
    rw [if_pos ⟨hg, rfl, rfl⟩, if_pos ⟨h, rfl, rfl⟩]
  · rw [if_neg (fun k => c ⟨k.2.1, k.2.2⟩), if_neg (fun k => c ⟨k.2.1, k.2.2⟩)]
theorem upTo_at {m : R} {G F : Img} {y x : Int} : upTo m G y x F x y = F x y := by
  unfold upTo
  rw [if_neg (fun k => by omega)]
/-- Laid where they meet, it is laid everywhere: elsewhere there is nothing. -/
theorem merge_last {b r : R} {F G : Img} (hF : Fits r F) (hG : Fits b G) : upTo (meetR b r) (overF F G) (meetR b r).y1 (meetR b r).x0 G = cutF b (overF F G) := by
  funext u v
  unfold upTo
  by_cases h : hasR (meetR b r) u v = true
  · have k := (hasR_iff _ _ _).1 h
    rw [if_pos ⟨h, by omega⟩]
    rw [has_meet] at h
    rw [cutF_in (by revert h; cases hasR b u v <;> simp)]
  · rw [if_neg (fun k => h k.1)]
    rw [has_meet] at h
    cases hb : hasR b u v
    · rw [cutF_out hb]
      exact hG.out u v hb
    · rw [cutF_in hb]
      have hr : hasR r u v = false := by revert h; rw [hb]; cases hasR r u v <;> simp
      unfold overF
      rw [hF.out u v hr]
      exact (compP_none_top 0 (G u v) (.inl rfl) (hG.ok u v)).symm
theorem merge_fits_upTo {b r : R} {F G : Img} (hG : Fits b G) (y x : Int) : Fits b (upTo (meetR b r) (overF F G) y x G) := by
  have e : upTo (meetR b r) (overF F G) y x G = cutF b (upTo (meetR b r) (overF F G) y x G) := by
    funext u v
    cases hb : hasR b u v
    · rw [cutF_out hb]
      unfold upTo
      rw [if_neg (fun k => by have := k.1; rw [has_meet, hb] at this; simp at this)]
      exact hG.out u v hb
    · rw [cutF_in hb]
  rw [e]
  refine Fits.cut (s := b) (fun x y _ => ?_)
  unfold upTo
  split
  · exact overF_ok _ _ _ _
  · exact hG.ok _ _

/-- What holds while they are laid. -/
structure MgSt (w wr : World) (nr no : Nat) (g : R) (a : Option Addr) (len cap : Nat) (G : Img) : Prop where
  rb : Blk wr nr 35 #[.int .i64 0, .int .i64 0, .int .i64 0, .int .i64 0, .slice none 0 0]
  ob : Blk wr no 35 #[.int .i64 g.x0, .int .i64 g.y0, .int .i64 g.x1, .int .i64 g.y1, .slice a len cap]
  gr : Grows w wr
  buf : BufAt wr g a len cap G
  open_ : Open wr a
section
variable {w wr w' : World} {nr no : Nat} {g : R} {a : Option Addr} {len cap : Nat} {G G' : Img}
theorem MgSt.grows (s : MgSt w wr nr no g a len cap G) (k : Grows wr w') : MgSt w w' nr no g a len cap G :=
  ⟨s.rb.grows k, s.ob.grows k, s.gr.trans k, s.buf.grows k, s.open_.grows k⟩
theorem MgSt.step (s : MgSt w wr nr no g a len cap G) (ha : ∀ k, blkOf a = some k → w.heap.size ≤ k ∧ k ≠ nr ∧ k ≠ no) (g1 : wr.grownBy w' (blkOf a)) (b1 : BufAt w' g a len cap G') (o1 : Open w' a) : MgSt w w' nr no g a len cap G' :=
  ⟨s.rb.grown g1 (fun e => (ha _ e.symm).2.1 rfl), s.ob.grown g1 (fun e => (ha _ e.symm).2.2 rfl), s.gr.grown g1 (fun k hk => (ha k hk).1), b1, o1⟩
end
end Go.Proofs.YtklcmlbkhjcaiaaDoor

/- Lists of the call's own that grow by append: of buffers, of rectangles, of pixels. -/




namespace Go.Proofs.YtklcmlbkhjcaiaaDoor
open Go.RowKit
set_option linter.unusedVariables false

def cellsL (c : Nat → List Value) : Nat → List Value
  | 0 => []
  | k + 1 => cellsL c k ++ c k
theorem cellsL_length {c : Nat → List Value} {s : Nat} (h : ∀ i, (c i).length = s) : ∀ k, (cellsL c k).length = k * s
  | 0 => by simp [cellsL]
  | k + 1 => by rw [cellsL, List.length_append, cellsL_length h k, h k, Nat.succ_mul]
theorem cellsL_at {c : Nat → List Value} {s : Nat} (h : ∀ i, (c i).length = s) : ∀ (k i j : Nat), i < k → j < s → (cellsL c k)[i * s + j]? = (c i)[j]?
  | 0, i, j, hi, _ => by omega
  | k + 1, i, j, hi, hj => by
    have hl := cellsL_length h k
    have hm : i * s + s ≤ (i + 1) * s := by rw [Nat.succ_mul]; omega
    by_cases e : i = k
    · subst e
      rw [cellsL, List.getElem?_append_right (by omega), hl, Nat.add_sub_cancel_left]
    · have : (i + 1) * s ≤ k * s := Nat.mul_le_mul_right s (by omega)
      rw [cellsL, List.getElem?_append_left (by omega), cellsL_at h k i j (by omega) hj]
theorem cellsL_congr {c c' : Nat → List Value} : ∀ (k : Nat), (∀ i, i < k → c i = c' i) → cellsL c k = cellsL c' k
  | 0, _ => rfl
  | k + 1, h => by rw [cellsL, cellsL, cellsL_congr k (fun i hi => h i (by omega)), h k (by omega)]
/-- A list of the call's own: its cells. -/
theorem ownL_at {w : World} {base : Nat} {e : TypeId} {s k cap : Nat} {a : Option Addr} {c : Nat → List Value} (h : w.ownsRow base e s (.slice a k cap) k (cellsL c k)) (hs : ∀ i, (c i).length = s) (h0 : 0 < k) :
    ∃ b, a = some ⟨b, 0, none⟩ ∧ base ≤ b ∧ b < w.heap.size ∧ ∀ i j, i < k → j < s → w.cell? ⟨b, i * s + j, none⟩ = (c i)[j]? := by
  rcases h.2 with ⟨hv, hx⟩ | ⟨g, c', cur, hv, hB, hg, hn, hc, hsz, htk⟩
  · injection hv with e1 e2 e3; omega
  · injection hv with e1 _ e3
    subst e1 e3
    have hlt := (Array.getElem?_eq_some_iff.1 hg).1
    refine ⟨g, rfl, hB, hlt, fun i j hi hj => ?_⟩
    have hl := cellsL_length hs k
    have hm : i * s + s ≤ k * s := by have : (i + 1) * s ≤ k * s := Nat.mul_le_mul_right s (by omega); rw [Nat.succ_mul] at this; omega
    rw [← cellsL_at hs k i j hi hj, ← htk, List.getElem?_take_of_lt (by omega), Array.getElem?_toList, cell_of_row w g _ cur _ _ hg]
theorem ownL_le {w : World} {base : Nat} {e : TypeId} {s k cap : Nat} {a : Option Addr} {xs : List Value} (h : w.ownsRow base e s (.slice a k cap) k xs) : k ≤ cap ∧ cap ≤ 9223372036854775807 := by
  rcases h.2 with ⟨hv, hx⟩ | ⟨g, c', cur, hv, hB, hg, hn, hc, hsz, htk⟩
  · injection hv with e1 e2 e3; omega
  · injection hv with e1 _ e3
    unfold maxLen at hc
    omega

/-! Buffers. -/
def bfC (b : Bf) : List Value := [.int .i64 b.r.x0, .int .i64 b.r.y0, .int .i64 b.r.x1, .int .i64 b.r.y1, .slice b.a b.len b.cap]
@[simp] theorem bfC_length (b : Bf) : (bfC b).length = 5 := rfl
theorem bfC_one {b : Bf} {u : Value} (h : u ∈ bfC b) : u.oneCell' = true := by
  simp only [bfC, List.mem_cons, List.not_mem_nil, or_false] at h
  rcases h with rfl | rfl | rfl | rfl | rfl <;> rfl
structure BsSt (w wr : World) (a : Option Addr) (k cap : Nat) (g : Nat → Bf) (F : Nat → Img) : Prop where
  gr : Grows w wr
  own : wr.ownsRow w.heap.size 35 5 (.slice a k cap) k (cellsL (fun i => bfC (g i)) k)
  buf : ∀ i, i < k → BufAt wr (g i).r (g i).a (g i).len (g i).cap (F i)
  far : ∀ i, i < k → ∀ x, (g i).a = some x → w.heap.size ≤ x.block ∧ x.block < wr.heap.size ∧ blkOf a ≠ some x.block
section
variable {w wr w' w1 : World} {a : Option Addr} {k cap : Nat} {g : Nat → Bf} {F : Nat → Img}
theorem BsSt.nil (w : World) (g : Nat → Bf) (F : Nat → Img) : BsSt w w none 0 0 g F :=
  ⟨Grows.refl w, ⟨rfl, .inl ⟨rfl, rfl⟩⟩, fun i hi => by omega, fun i hi => by omega⟩
theorem BsSt.grows (s : BsSt w wr a k cap g F) (h : Grows wr w') : BsSt w w' a k cap g F :=
  ⟨s.gr.trans h, ownsRow_grows s.own h, fun i hi => (s.buf i hi).grows h, fun i hi x hx => by
    obtain ⟨h1, h2, h3⟩ := s.far i hi x hx
    exact ⟨h1, by have := h.below.size; omega, h3⟩⟩
theorem BsSt.push (s : BsSt w wr a k cap g F) (h : Grows wr w') {b : Bf} {p c : Nat} (hb : BufAt w' b.r b.a b.len b.cap (F k)) (hf : ∀ x, b.a = some x → wr.heap.size ≤ x.block ∧ x.block < w'.heap.size)
    (h1 : w1.ownsRow w.heap.size 35 5 (.slice (some ⟨p, 0, none⟩) (k + 1) c) (k + 1) (cellsL (fun i => bfC (g i)) k ++ bfC b)) (h2 : w'.grownBy w1 (blkOf a)) (h3 : blkOf a = some p ∨ p = w'.heap.size) :
    BsSt w w1 (some ⟨p, 0, none⟩) (k + 1) c (fun i => if i = k then b else g i) F := by
  have hl := own_lt s.own
  have hsz := h.below.size
  have hs2 := h2.size
  have ne : ∀ x : Addr, x.block < w'.heap.size → blkOf a ≠ some x.block → (some (⟨p, 0, none⟩ : Addr)).map (·.block) ≠ some x.block := fun x hx hx2 e => by
    have e2 : p = x.block := by simpa using e
    rcases h3 with h3 | h3
    · exact hx2 (by rw [h3, e2])
    · omega
  have hbf : ∀ x, b.a = some x → blkOf a ≠ some x.block := fun x hx e => by
    have := (hl _ e).2
    have := (hf x hx).1
    omega
  refine ⟨?_, ?_, fun i hi => ?_, fun i hi x hx => ?_⟩
  · exact (s.gr.trans h).grown h2 (fun j hj => (hl j hj).1)
  · rw [show cellsL (fun i => bfC (if i = k then b else g i)) (k + 1) = cellsL (fun i => bfC (g i)) k ++ bfC b from by
      rw [cellsL, if_pos rfl, cellsL_congr k (fun i hi => by rw [if_neg (by omega)])]]
    exact h1
  · by_cases e : i = k
    · subst e
      simp only [if_pos]
      exact hb.grown h2 (fun _ x hx e => hbf x hx e.symm)
    · simp only [if_neg e]
      exact ((s.buf i (by omega)).grows h).grown h2 (fun _ x hx e2 => (s.far i (by omega) x hx).2.2 e2.symm)
  · by_cases e : i = k
    · subst e
      simp only [if_pos] at hx
      have hw := s.gr.below.size
      exact ⟨by have := (hf x hx).1; omega, by have := (hf x hx).2; omega, ne x (hf x hx).2 (hbf x hx)⟩
    · simp only [if_neg e] at hx
      obtain ⟨f1, f2, f3⟩ := s.far i (by omega) x hx
      exact ⟨f1, by omega, ne x (by omega) f3⟩
/-- As a row of buffers. -/
def bfOf (g : Nat → Bf) (F : Nat → Img) : Nat → Bf := fun i => ⟨(g i).r, (g i).a, (g i).len, (g i).cap, fun j => F i (ptX (g i).r j) (ptY (g i).r j)⟩
theorem BsSt.bufs (s : BsSt w wr a k cap g F) : IsBufs wr a k cap (bfOf g F) :=
  ⟨(ownL_le s.own).1, by have := (ownL_le s.own).2; omega, fun i hi => (s.buf i hi).pix, fun h0 => by
    obtain ⟨b, rfl, _, hb, hc⟩ := ownL_at s.own (fun i => bfC_length (g i)) h0
    refine ⟨b, 0, rfl, hb, fun i hi => ?_⟩
    have c0 := hc i 0 hi (by omega)
    have c1 := hc i 1 hi (by omega)
    have c2 := hc i 2 hi (by omega)
    have c3 := hc i 3 hi (by omega)
    have c4 := hc i 4 hi (by omega)
    simp only [Nat.zero_add]
    exact ⟨c0, c1, c2, c3, c4⟩⟩
end
theorem buf_parts : (Tryd.prog.info? 35).map (fun i => (i.zero, i.size, i.bytes)) = some (some (.agg #[.int .i64 0, .int .i64 0, .int .i64 0, .int .i64 0, .slice none 0 0]), 5, 56) := by kernel_rfl
/-- A buffer appended to a list of the call's own, at a step of a region. -/
theorem step_append_buf {ops : Array Oper} {o : Oper} {a : Act} {w : World} {K : Act → World → Prop} {Q : Exit → Act → World → Prop} {E : Prop} (hgd : o.guard = none) (s x : Operand)
    (ho : o.op = .call { callee := .builtin .append, args := #[s, x], argTypes := #[25, 25] })
    (base : Nat) (ad : Option Addr) (k cap : Nat) (g : Nat → Bf) (b : Bf) (hs : a.eval s = .slice ad k cap) (hown : w.ownsRow base 35 5 (.slice ad k cap) k (cellsL (fun i => bfC (g i)) k))
    (n c : Nat) (hx : a.eval x = .slice (some ⟨n, 0, none⟩) 1 c) (hn : Blk w n 35 #[.int .i64 b.r.x0, .int .i64 b.r.y0, .int .i64 b.r.x1, .int .i64 b.r.y1, .slice b.a b.len b.cap]) (hk : k ≤ 30000000) (hbase : base ≤ w.heap.size)
    (h : ∀ p cap' w', w'.ownsRow base 35 5 (.slice (some ⟨p, 0, none⟩) (k + 1) cap') (k + 1) (cellsL (fun i => bfC (g i)) k ++ bfC b) → w.grownBy w' (blkOf ad) → (blkOf ad = some p ∨ p = w.heap.size) → p < w'.heap.size → K (a.put o.dst (.slice (some ⟨p, 0, none⟩) (k + 1) cap')) w') :
    if Region.wanted o (yielded ops a.tmps) = true then Oper.wp Tryd.prog o a w K Q else E := by
  obtain ⟨i, hi, hz, hsz, hb⟩ := info_parts buf_parts
  refine step_append_lies w hgd s x 25 ho base 35 i _ 5 56 Tryd.underlying25 hi hz hsz hb rfl (by omega) (.slice ad k cap) k (cellsL (fun i => bfC (g i)) k) hs hown ⟨n, 0, none⟩ 1 c (bfC b) hx rfl (fun j u hu => ?_) (fun u hu => bfC_one hu) (by omega) (by unfold maxLen; omega) (by omega) hbase w.heap.size rfl ?_
  · rw [Go.Addr.add_mid, Nat.zero_add, hn.cell]
    simpa [bfC] using hu
  · intro p cap' w' h1 h2 h3 h4
    refine h p cap' w' h1 ?_ ?_ h4
    · cases ad <;> exact h2
    · cases ad
      · exact h3.imp (fun e => by simp [Value.ownBlock] at e) id
      · exact h3

/-! Rectangles. -/
def rcC (b : R) : List Value := [.int .i64 b.x0, .int .i64 b.y0, .int .i64 b.x1, .int .i64 b.y1]
@[simp] theorem rcC_length (b : R) : (rcC b).length = 4 := rfl
theorem rcC_one {b : R} {u : Value} (h : u ∈ rcC b) : u.oneCell' = true := by
  simp only [rcC, List.mem_cons, List.not_mem_nil, or_false] at h
  rcases h with rfl | rfl | rfl | rfl <;> rfl
theorem rect_parts : (Tryd.prog.info? 27).map (fun i => (i.zero, i.size, i.bytes)) = some (some (.agg #[.int .i64 0, .int .i64 0, .int .i64 0, .int .i64 0]), 4, 32) := by kernel_rfl
/-- A list of rectangles, read. -/
structure IsRects (w : World) (a : Option Addr) (len cap : Nat) (f : Nat → R) : Prop where
  le : len ≤ cap
  most : cap ≤ 9223372036854775807
  cells : 0 < len → ∃ b off, a = some ⟨b, off, none⟩ ∧ b < w.heap.size ∧ ∀ i, i < len → w.cell? ⟨b, off + i * 4, none⟩ = some (.int .i64 (f i).x0) ∧ w.cell? ⟨b, off + i * 4 + 1, none⟩ = some (.int .i64 (f i).y0) ∧ w.cell? ⟨b, off + i * 4 + 2, none⟩ = some (.int .i64 (f i).x1) ∧ w.cell? ⟨b, off + i * 4 + 3, none⟩ = some (.int .i64 (f i).y1)
theorem IsRects.grows {w w' : World} {a : Option Addr} {len cap : Nat} {f : Nat → R} (h : IsRects w a len cap f) (g : Grows w w') : IsRects w' a len cap f :=
  ⟨h.le, h.most, fun h0 => by
    obtain ⟨b, off, e, hb, hc⟩ := h.cells h0
    have k : ∀ c, w'.cell? ⟨b, c, none⟩ = w.cell? ⟨b, c, none⟩ := fun c => g.below.cell (p := ⟨b, c, none⟩) hb
    refine ⟨b, off, e, Nat.lt_of_lt_of_le hb g.below.size, fun i hi => ?_⟩
    rw [k, k, k, k]
    exact hc i hi⟩
theorem IsRects.nil (w : World) (f : Nat → R) : IsRects w none 0 0 f := ⟨by omega, by omega, fun h => by omega⟩
theorem IsRects.at {w : World} {a : Option Addr} {len cap : Nat} {f : Nat → R} (h : IsRects w a len cap f) {k : Nat} (hk : k < len) : ∃ b off, a = some ⟨b, off, none⟩ ∧ b < w.heap.size ∧ w.cell? ⟨b, off + k * 4, none⟩ = some (.int .i64 (f k).x0) ∧ w.cell? ⟨b, off + k * 4 + 1, none⟩ = some (.int .i64 (f k).y0) ∧ w.cell? ⟨b, off + k * 4 + 2, none⟩ = some (.int .i64 (f k).x1) ∧ w.cell? ⟨b, off + k * 4 + 3, none⟩ = some (.int .i64 (f k).y1) := by
  obtain ⟨b, off, e, hb, hc⟩ := h.cells (by omega)
  obtain ⟨c0, c1, c2, c3⟩ := hc k hk
  exact ⟨b, off, e, hb, c0, c1, c2, c3⟩
theorem rects_own {w : World} {base : Nat} {a : Option Addr} {k cap : Nat} {f : Nat → R} (h : w.ownsRow base 27 4 (.slice a k cap) k (cellsL (fun i => rcC (f i)) k)) : IsRects w a k cap f :=
  ⟨(ownL_le h).1, by have := (ownL_le h).2; omega, fun h0 => by
    obtain ⟨b, rfl, _, hb, hc⟩ := ownL_at h (fun i => rcC_length (f i)) h0
    refine ⟨b, 0, rfl, hb, fun i hi => ?_⟩
    simp only [Nat.zero_add]
    exact ⟨hc i 0 hi (by omega), hc i 1 hi (by omega), hc i 2 hi (by omega), hc i 3 hi (by omega)⟩⟩
/-- A rectangle appended to a list of the call's own: at a step of a region, and outside of one. -/
theorem step_append_rect {ops : Array Oper} {o : Oper} {a : Act} {w : World} {K : Act → World → Prop} {Q : Exit → Act → World → Prop} {E : Prop} (hgd : o.guard = none) (s x : Operand)
    (ho : o.op = .call { callee := .builtin .append, args := #[s, x], argTypes := #[30, 30] })
    (base : Nat) (ad : Option Addr) (k cap : Nat) (f : Nat → R) (b : R) (hs : a.eval s = .slice ad k cap) (hown : w.ownsRow base 27 4 (.slice ad k cap) k (cellsL (fun i => rcC (f i)) k))
    (n c : Nat) (hx : a.eval x = .slice (some ⟨n, 0, none⟩) 1 c) (hn : Blk w n 27 #[.int .i64 b.x0, .int .i64 b.y0, .int .i64 b.x1, .int .i64 b.y1]) (hf : f k = b) (hk : k ≤ 30000000) (hbase : base ≤ w.heap.size)
    (h : ∀ p cap' w', w'.ownsRow base 27 4 (.slice (some ⟨p, 0, none⟩) (k + 1) cap') (k + 1) (cellsL (fun i => rcC (f i)) (k + 1)) → w.grownBy w' (blkOf ad) → (blkOf ad = some p ∨ p = w.heap.size) → p < w'.heap.size → K (a.put o.dst (.slice (some ⟨p, 0, none⟩) (k + 1) cap')) w') :
    if Region.wanted o (yielded ops a.tmps) = true then Oper.wp Tryd.prog o a w K Q else E := by
  obtain ⟨i, hi, hz, hsz, hb⟩ := info_parts rect_parts
  subst hf
  refine step_append_lies w hgd s x 30 ho base 27 i _ 4 32 Tryd.underlying30 hi hz hsz hb rfl (by omega) (.slice ad k cap) k (cellsL (fun i => rcC (f i)) k) hs hown ⟨n, 0, none⟩ 1 c (rcC (f k)) hx rfl (fun j u hu => ?_) (fun u hu => rcC_one hu) (by omega) (by unfold maxLen; omega) (by omega) hbase w.heap.size rfl ?_
  · rw [Go.Addr.add_mid, Nat.zero_add, hn.cell]
    simpa [rcC] using hu
  · intro p cap' w' h1 h2 h3 h4
    refine h p cap' w' h1 ?_ ?_ h4
    · cases ad <;> exact h2
    · cases ad
      · exact h3.imp (fun e => by simp [Value.ownBlock] at e) id
      · exact h3
theorem wpList_append_rect {ops : Array Oper} {rest : List Oper} {o : Oper} {a : Act} {w : World} {Q : Exit → Act → World → Prop} (hgd : o.guard = none) (s x : Operand)
    (ho : o.op = .call { callee := .builtin .append, args := #[s, x], argTypes := #[30, 30] })
    (base : Nat) (ad : Option Addr) (k cap : Nat) (f : Nat → R) (b : R) (hs : a.eval s = .slice ad k cap) (hown : w.ownsRow base 27 4 (.slice ad k cap) k (cellsL (fun i => rcC (f i)) k))
    (n c : Nat) (hx : a.eval x = .slice (some ⟨n, 0, none⟩) 1 c) (hn : Blk w n 27 #[.int .i64 b.x0, .int .i64 b.y0, .int .i64 b.x1, .int .i64 b.y1]) (hf : f k = b) (hk : k ≤ 30000000) (hbase : base ≤ w.heap.size)
    (h : ∀ p cap' w', w'.ownsRow base 27 4 (.slice (some ⟨p, 0, none⟩) (k + 1) cap') (k + 1) (cellsL (fun i => rcC (f i)) (k + 1)) → w.grownBy w' (blkOf ad) → (blkOf ad = some p ∨ p = w.heap.size) → p < w'.heap.size → wpList Tryd.prog ops Q rest (a.put o.dst (.slice (some ⟨p, 0, none⟩) (k + 1) cap')) w') : wpList Tryd.prog ops Q (o :: rest) a w := by
  obtain ⟨i, hi, hz, hsz, hb⟩ := info_parts rect_parts
  subst hf
  refine wpList_append_lies w hgd s x 30 ho base 27 i _ 4 32 Tryd.underlying30 hi hz hsz hb rfl (by omega) (.slice ad k cap) k (cellsL (fun i => rcC (f i)) k) hs hown ⟨n, 0, none⟩ 1 c (rcC (f k)) hx rfl (fun j u hu => ?_) (fun u hu => rcC_one hu) (by omega) (by unfold maxLen; omega) (by omega) hbase w.heap.size rfl ?_
  · rw [Go.Addr.add_mid, Nat.zero_add, hn.cell]
    simpa [rcC] using hu
  · intro p cap' w' h1 h2 h3 h4
    refine h p cap' w' h1 ?_ ?_ h4
    · cases ad <;> exact h2
    · cases ad
      · exact h3.imp (fun e => by simp [Value.ownBlock] at e) id
      · exact h3
end Go.Proofs.YtklcmlbkhjcaiaaDoor
