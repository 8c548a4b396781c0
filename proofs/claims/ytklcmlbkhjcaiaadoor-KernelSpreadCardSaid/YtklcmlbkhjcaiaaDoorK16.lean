/- The walk of the reference of layer 8: along rows, along columns. -/
import Derived.Test.YtklcmlbkhjcaiaaDoorBlurR
import Derived.Test.YtklcmlbkhjcaiaaDoorK14
import Derived.Test.YtklcmlbkhjcaiaaDoorK5




namespace Go.Proofs.YtklcmlbkhjcaiaaDoor
open Go.RowKit
set_option linter.unusedVariables false

theorem ownsRow_grown {w w' : World} {base : Nat} {e : TypeId} {size n : Nat} {a : Option Addr} {c : Nat} {xs : List Value} {row : Option Nat} (h : w.ownsRow base e size (.slice a n c) n xs) (g : w.grownBy w' row) (hne : ∀ k, blkOf a = some k → some k ≠ row) : w'.ownsRow base e size (.slice a n c) n xs := by
  refine ⟨h.1, ?_⟩
  rcases h.2 with h2 | ⟨b, c', cur, hv, hb, hg, h3⟩
  · exact .inl h2
  · refine .inr ⟨b, c', cur, hv, hb, (g.block b (Array.getElem?_eq_some_iff.1 hg).1 (hne b ?_)).trans hg, h3⟩
    injection hv with hv
    subst hv
    rfl
/-- Another block of the call's own is written. -/
theorem AppSt.beside {w wr w' : World} {o n : Nat} {r : R} {a : Option Addr} {k cap : Nat} {f : Nat → P4} (h : AppSt w wr o r a k cap f) (g : wr.grownBy w' (some n)) (hn : w.heap.size ≤ n) (ha : ∀ j, blkOf a = some j → j ≠ n) : AppSt w w' o r a k cap f :=
  ⟨h.lt, grownBy_then h.by_ g (fun j hj => .inl (by injection hj with hj; omega)), h.ob.grown g (fun e => by have := h.lt; injection e with e; omega), ownsRow_grown h.own g (fun j hj e => ha j hj (by injection e))⟩

/-- What holds while the values around a point are summed: the world before, and the sums' block. -/
structure SumSt (w wr : World) (n : Nat) (S : P4) : Prop where
  by_ : w.grownBy wr (some n)
  sb : Blk wr n 99 #[.int .i64 S.r, .int .i64 S.g, .int .i64 S.b, .int .i64 S.a]

end Go.Proofs.YtklcmlbkhjcaiaaDoor
/- The walk of the reference of layer 8: along columns. -/

namespace Go.Proofs.YtklcmlbkhjcaiaaDoor
open Go.RowKit
set_option linter.unusedVariables false

end Go.Proofs.YtklcmlbkhjcaiaaDoor
