/- A block that is known whole. -/
import Derived.Test.YtghcpjahieaepaaWorld
import Derived.Lib.Hide
import Derived.Laws.Rows
import Derived.Laws.AppendOwn
namespace Go.Proofs.Ytghcpjahieaepaa
open Go.RowKit
set_option linter.unusedVariables false

def Blk (w : World) (n : Nat) (t : TypeId) (cs : Array Value) : Prop := w.heap[n]? = some (.cells cs t (0, 0))
section
variable {w w' : World} {n : Nat} {t : TypeId} {cs : Array Value}
theorem Blk.lt (h : Blk w n t cs) : n < w.heap.size := (Array.getElem?_eq_some_iff.1 h).1
theorem Blk.grows (h : Blk w n t cs) (hg : Grows w w') : Blk w' n t cs := (hg.below.block n h.lt).trans h
theorem Blk.grown {row : Option Nat} (h : Blk w n t cs) (hg : w.grownBy w' row) (hne : some n ≠ row) : Blk w' n t cs := (hg.block n h.lt hne).trans h
theorem Blk.cell (h : Blk w n t cs) (i : Nat) : w.cell? ⟨n, i, none⟩ = cs[i]? := cell_of_row w n i cs t (0, 0) h
theorem Blk.frozen (h : Blk w n t cs) (i : Nat) : w.frozen? ⟨n, i, none⟩ = false := by
  unfold Blk at h
  simp [World.frozen?, h]
theorem Blk.c4 {v0 v1 v2 v3 : Value} (h : Blk w n t #[v0, v1, v2, v3]) : w.cell? ⟨n, 0, none⟩ = some v0 ∧ w.cell? ⟨n, 1, none⟩ = some v1 ∧ w.cell? ⟨n, 2, none⟩ = some v2 ∧ w.cell? ⟨n, 3, none⟩ = some v3 ∧ ∀ i, w.frozen? ⟨n, i, none⟩ = false :=
  ⟨h.cell 0, h.cell 1, h.cell 2, h.cell 3, h.frozen⟩
theorem Blk.far (h : Blk w n t cs) {p : Addr} (hp : n ≠ p.block) (u : Value) : Blk (w.setCell p u) n t cs := (Below.heap_setCell w p u n hp).trans h
end
end Go.Proofs.Ytghcpjahieaepaa
