/- 'append([]api.Px{}, l...)' at a step of a region that draws its order: a row of pixels copied. -/

import Derived.Test.YticeoppldlhehaaCopied
import Derived.Deep.RegionHeld3
import Derived.Deep.AppendLies
namespace Go.Proofs.Yticeoppldlhehaa
open Go.RowKit
set_option linter.unusedVariables false

theorem step_append_row {ops : Array Oper} {o : Oper} {a : Act} {w : World} {K : Act → World → Prop} {Q : Exit → Act → World → Prop} {E : Prop} (hw : Region.wanted o (yielded ops a.tmps) = true) (s x : Operand)
    (ho : o.op = .call { callee := .builtin .append, args := #[s, x], argTypes := #[24, 24] })
    (base n : Nat) (hs : a.eval s = .slice (some ⟨n, 0, none⟩) 0 0) (hn : Blk w n 32 #[]) (hb : base ≤ n)
    (ad : Option Addr) (len cap : Nat) (f : Nat → P4) (hx : a.eval x = .slice ad len cap) (hp : IsPix w ad len cap f) (hl : len ≤ 30000000000000)
    (h : ∀ ad' cap' w', w'.ownsRow base 32 4 (.slice ad' len cap') len (cellsP f len) → w.grownBy w' (some n) → K (a.put o.dst (.slice ad' len cap')) w') :
    if Region.wanted o (yielded ops a.tmps) = true then Oper.wp Try.prog o a w K Q else E := by
  rw [if_pos hw]
  obtain ⟨i, hi, hz, hsz, hby⟩ := info_parts px_parts
  have hown : w.ownsRow base 32 4 (.slice (some ⟨n, 0, none⟩) 0 0) 0 [] := ⟨rfl, .inr ⟨n, 0, #[], rfl, hb, hn, Nat.le_refl _, Nat.zero_le _, rfl, rfl⟩⟩
  cases ad with
  | none =>
    have h0 : len = 0 := by
      rcases Nat.eq_zero_or_pos len with h0 | h0
      · exact h0
      · obtain ⟨b, off, e, _⟩ := hp.cells h0; cases e
    subst h0
    have hrun := run_append_of_nil (P := Try.prog) w base 24 o.type 32 i 4 Try.underlying24 hi _ 0 [] hown cap
    unfold Oper.wp execOp
    simp only [ho, resolve, invoke, builtin, Sem.run_bind, Sem.run_pure, Result.andThen_ok, List.map_toArray, List.map_cons, List.map_nil, hs, hx, hrun]
    exact h _ _ w hown (World.grownBy.refl w _)
  | some ad =>
    obtain ⟨v', w', hrun, h2, h3, _, _⟩ := run_append_own_at (P := Try.prog) w base 24 o.type 32 i _ 4 4 Try.underlying24 hi hz hsz hby rfl (by omega) _ 0 [] hown ad len cap (cellsP f len) (by rw [cellsP_length])
      (fun j u hu => by
        obtain ⟨hj, rfl⟩ := cellsP_div hu
        obtain ⟨b, off, e, _, hc⟩ := hp.cells (by omega)
        cases e
        rw [Go.Addr.add_mid]
        have := hc (j / 4) (j % 4) (by omega) (by omega)
        rwa [show j / 4 * 4 + j % 4 = j from by omega] at this)
      (fun u hu => cellsP_one _ _ u hu) (by unfold maxLen; omega) (by omega) (by have := hn.lt; omega)
    rw [Nat.zero_add] at h2
    obtain ⟨ad', cap', rfl⟩ := ownsRow_form h2
    unfold Oper.wp execOp
    simp only [ho, resolve, invoke, builtin, Sem.run_bind, Sem.run_pure, Result.andThen_ok, List.map_toArray, List.map_cons, List.map_nil, hs, hx, hrun]
    exact h _ _ w' h2 h3
/-- What has been copied: a buffer in new memory. -/
theorem bufAt_copied {w : World} {base len cap : Nat} {r : R} {a : Option Addr} {F : Img} (hg : GoodR r) (hF : Fits r F) (hc : len = cntR r) (h : w.ownsRow base 32 4 (.slice a len cap) len (cellsP (fun i => F (ptX r i) (ptY r i)) len)) :
    BufAt w r a len cap F := by
  subst hc
  have := (bufAt_own hg (fun x y _ => hF.ok x y) h).1
  rwa [hF.cut_eq] at this
/-- A world, named, behind a region. -/
theorem then_name {K : Act → World → Prop} {Q : Exit → Act → World → Prop} {a : Act} {w : World} (h : ∀ W, W = w → Exit.then K Q .normal a W) : Exit.then K Q .normal a w := h w rfl
/-- What holds while a buffer's pixels are all overwritten. -/
structure KeepSt (w wr : World) (a : Option Addr) (len cap : Nat) : Prop where
  by_ : w.grownBy wr (blkOf a)
  pix : ∃ f, IsPix wr a len cap f
  open_ : Open wr a
theorem KeepSt.set {w wr : World} {b off len cap k : Nat} {f : Nat → P4} (h : KeepSt w wr (some ⟨b, off, none⟩) len cap) (hf : IsPix wr (some ⟨b, off, none⟩) len cap f) (hk : k < len) {p : P4} (hp : okP p) : KeepSt w (wr.setCells b (off + k * 4) (pxC p)) (some ⟨b, off, none⟩) len cap :=
  ⟨h.by_.trans (grownBy_setCells wr b (off + k * 4) (pxC p)), ⟨_, hf.set rfl hk hp⟩, h.open_.setCells _ _ _⟩
theorem Grows.five {w wr : World} {n : Nat} (h : Grows w wr) (hn : w.heap.size ≤ n) (v0 v1 v2 v3 v4 : Value) : Grows w (((((wr.setCell ⟨n, 0, none⟩ v0).setCell ⟨n, 1, none⟩ v1).setCell ⟨n, 2, none⟩ v2).setCell ⟨n, 3, none⟩ v3).setCell ⟨n, 4, none⟩ v4) := by
  iterate 4 (refine Grows.setCell ?_ hn _)
  exact h.setCell hn _
theorem Blk.far5 {wr : World} {n m : Nat} {t : TypeId} {cs : Array Value} (h : Blk wr m t cs) (hn : m ≠ n) (v0 v1 v2 v3 v4 : Value) : Blk (((((wr.setCell ⟨n, 0, none⟩ v0).setCell ⟨n, 1, none⟩ v1).setCell ⟨n, 2, none⟩ v2).setCell ⟨n, 3, none⟩ v3).setCell ⟨n, 4, none⟩ v4) m t cs := by
  iterate 4 (refine Blk.far ?_ hn _)
  exact h.far hn _
theorem ownsRow_far5 {w : World} {base : Nat} {e : TypeId} {size k n : Nat} {a : Option Addr} {c : Nat} {xs : List Value} (h : w.ownsRow base e size (.slice a k c) k xs) (hn : blkOf a ≠ some n) (v0 v1 v2 v3 v4 : Value) : (((((w.setCell ⟨n, 0, none⟩ v0).setCell ⟨n, 1, none⟩ v1).setCell ⟨n, 2, none⟩ v2).setCell ⟨n, 3, none⟩ v3).setCell ⟨n, 4, none⟩ v4).ownsRow base e size (.slice a k c) k xs := by
  iterate 4 (refine ownsRow_far ?_ hn _)
  exact ownsRow_far h hn _
end Go.Proofs.Yticeoppldlhehaa
