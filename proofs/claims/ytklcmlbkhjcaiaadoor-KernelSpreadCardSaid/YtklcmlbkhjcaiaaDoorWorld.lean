/- Words for worlds, over any program: a world that has only grown (new blocks behind the old ones, draws), as an equation that the walk sees through; and the law for a region that draws its order, whose operations read and whose calls only let the world grow, with a tail of operations in one forced order. -/
import Derived.Below
import Derived.WalkKit
import Derived.StillTail
import Derived.Deep.Quiet
import Derived.Deep.Draws






namespace Go.Proofs.YtklcmlbkhjcaiaaDoor
open Go.RowKit
set_option linter.unusedVariables false

/-- What a world has grown by: how far the tape has been drawn, and the new blocks. -/
structure Growth where
  drawn : Nat
  news : Array Obj
instance : Nonempty Growth := ⟨⟨0, #[]⟩⟩

def grow (w : World) (g : Growth) : World := { w with heap := w.heap ++ g.news, drawn := g.drawn }
/-- w' is w, grown. -/
def Grows (w w' : World) : Prop := ∃ g, w' = grow w g

section
variable (w : World) (g h : Growth) (n i : Nat)
@[simp, go_sem] theorem size_grow : (grow w g).heap.size = w.heap.size + g.news.size := by simp [grow]
theorem heap_grow (k : Nat) (hk : k < w.heap.size) : (grow w g).heap[k]? = w.heap[k]? := by
  simp [grow, Array.getElem?_append, hk]
@[simp, go_sem] theorem cell?_grow (hn : n < w.heap.size) : (grow w g).cell? ⟨n, i, none⟩ = w.cell? ⟨n, i, none⟩ := World.cell?_of_block (heap_grow w g n hn)
@[simp, go_sem] theorem frozen?_grow (hn : n < w.heap.size) : (grow w g).frozen? ⟨n, i, none⟩ = w.frozen? ⟨n, i, none⟩ := World.frozen?_of_block (heap_grow w g n hn)
@[simp, go_sem] theorem tape_grow : (grow w g).tape = w.tape := rfl
theorem grow_grow : grow (grow w g) h = grow w ⟨h.drawn, g.news ++ h.news⟩ := by simp [grow, Array.append_assoc]
@[simp, go_sem] theorem drew_grow : (grow w g).drew = grow w ⟨g.drawn + 1, g.news⟩ := rfl
@[simp, go_sem] theorem grow_drew : grow w.drew g = grow w g := rfl
@[simp, go_sem] theorem drewN_grow (k : Nat) : (grow w g).drewN k = grow w ⟨g.drawn + k, g.news⟩ := rfl
@[simp, go_sem] theorem grow_drewN (k : Nat) : grow (w.drewN k) g = grow w g := rfl
@[simp, go_sem] theorem setCell_grow (hn : n < w.heap.size) (v : Value) : (grow w g).setCell ⟨n, i, none⟩ v = grow (w.setCell ⟨n, i, none⟩ v) g := by
  simp only [grow, World.setCell]
  congr 1
  apply Array.ext_getElem?
  intro k
  simp only [Array.getElem?_modify, Array.getElem?_append, Array.size_modify]
  by_cases hk : k < w.heap.size
  · simp [hk]
  · simp only [hk, if_false]
    rw [if_neg (by omega)]
end

/-! Sizes: what the walk must see of a block's number, without a condition (simp's discharger goes two levels deep only). Written by a small program. -/
section
variable (a : Nat) (g h k : Growth)
@[simp, go_sem] theorem sz0 : a < a + 1 + g.news.size := by omega
@[simp, go_sem] theorem sz1 : a < a + 1 + g.news.size + h.news.size := by omega
@[simp, go_sem] theorem sz2 : a < a + 1 + g.news.size + h.news.size + k.news.size := by omega
@[simp, go_sem] theorem sz3 : a < a + 1 + g.news.size + h.news.size + k.news.size + 1 := by omega
@[simp, go_sem] theorem sz4 : a < a + 1 + g.news.size + h.news.size + 1 := by omega
@[simp, go_sem] theorem sz5 : a < a + 1 + g.news.size + h.news.size + 1 + k.news.size := by omega
@[simp, go_sem] theorem sz6 : a < a + 1 + g.news.size + h.news.size + 1 + k.news.size + 1 := by omega
@[simp, go_sem] theorem sz7 : a < a + 1 + g.news.size + h.news.size + 1 + 1 := by omega
@[simp, go_sem] theorem sz8 : a < a + 1 + g.news.size + 1 := by omega
@[simp, go_sem] theorem sz9 : a < a + 1 + g.news.size + 1 + h.news.size := by omega
@[simp, go_sem] theorem sz10 : a < a + 1 + g.news.size + 1 + h.news.size + k.news.size := by omega
@[simp, go_sem] theorem sz11 : a < a + 1 + g.news.size + 1 + h.news.size + k.news.size + 1 := by omega
@[simp, go_sem] theorem sz12 : a < a + 1 + g.news.size + 1 + h.news.size + 1 := by omega
@[simp, go_sem] theorem sz13 : a < a + 1 + g.news.size + 1 + h.news.size + 1 + k.news.size := by omega
@[simp, go_sem] theorem sz14 : a < a + 1 + g.news.size + 1 + h.news.size + 1 + k.news.size + 1 := by omega
@[simp, go_sem] theorem sz15 : a < a + 1 + g.news.size + 1 + h.news.size + 1 + 1 := by omega
@[simp, go_sem] theorem sz16 : a < a + 1 + g.news.size + 1 + 1 := by omega
@[simp, go_sem] theorem sz17 : a < a + 1 + g.news.size + 1 + 1 + h.news.size := by omega
@[simp, go_sem] theorem sz18 : a < a + 1 + g.news.size + 1 + 1 + h.news.size + k.news.size := by omega
@[simp, go_sem] theorem sz19 : a < a + 1 + g.news.size + 1 + 1 + h.news.size + k.news.size + 1 := by omega
@[simp, go_sem] theorem sz20 : a < a + 1 + g.news.size + 1 + 1 + h.news.size + 1 := by omega
@[simp, go_sem] theorem sz21 : a < a + 1 + g.news.size + 1 + 1 + h.news.size + 1 + k.news.size := by omega
@[simp, go_sem] theorem sz22 : a < a + 1 + g.news.size + 1 + 1 + h.news.size + 1 + k.news.size + 1 := by omega
@[simp, go_sem] theorem sz23 : a < a + 1 + g.news.size + 1 + 1 + h.news.size + 1 + 1 := by omega
@[simp, go_sem] theorem sz24 : a < a + 1 + g.news.size + 1 + 1 + 1 := by omega
@[simp, go_sem] theorem sz25 : a < a + 1 + g.news.size + 1 + 1 + 1 + h.news.size := by omega
@[simp, go_sem] theorem sz26 : a < a + 1 + g.news.size + 1 + 1 + 1 + h.news.size + 1 := by omega
@[simp, go_sem] theorem sz27 : a < a + 1 + g.news.size + 1 + 1 + 1 + h.news.size + 1 + 1 := by omega
@[simp, go_sem] theorem sz28 : a < a + 1 + 1 + g.news.size := by omega
@[simp, go_sem] theorem sz29 : a < a + 1 + 1 + g.news.size + h.news.size := by omega
@[simp, go_sem] theorem sz30 : a < a + 1 + 1 + g.news.size + h.news.size + k.news.size := by omega
@[simp, go_sem] theorem sz31 : a < a + 1 + 1 + g.news.size + h.news.size + k.news.size + 1 := by omega
@[simp, go_sem] theorem sz32 : a < a + 1 + 1 + g.news.size + h.news.size + 1 := by omega
@[simp, go_sem] theorem sz33 : a < a + 1 + 1 + g.news.size + h.news.size + 1 + k.news.size := by omega
@[simp, go_sem] theorem sz34 : a < a + 1 + 1 + g.news.size + h.news.size + 1 + k.news.size + 1 := by omega
@[simp, go_sem] theorem sz35 : a < a + 1 + 1 + g.news.size + h.news.size + 1 + 1 := by omega
@[simp, go_sem] theorem sz36 : a < a + 1 + 1 + g.news.size + 1 := by omega
@[simp, go_sem] theorem sz37 : a < a + 1 + 1 + g.news.size + 1 + h.news.size := by omega
@[simp, go_sem] theorem sz38 : a < a + 1 + 1 + g.news.size + 1 + h.news.size + k.news.size := by omega
@[simp, go_sem] theorem sz39 : a < a + 1 + 1 + g.news.size + 1 + h.news.size + k.news.size + 1 := by omega
@[simp, go_sem] theorem sz40 : a < a + 1 + 1 + g.news.size + 1 + h.news.size + 1 := by omega
@[simp, go_sem] theorem sz41 : a < a + 1 + 1 + g.news.size + 1 + h.news.size + 1 + k.news.size := by omega
@[simp, go_sem] theorem sz42 : a < a + 1 + 1 + g.news.size + 1 + h.news.size + 1 + k.news.size + 1 := by omega
@[simp, go_sem] theorem sz43 : a < a + 1 + 1 + g.news.size + 1 + h.news.size + 1 + 1 := by omega
@[simp, go_sem] theorem sz44 : a < a + 1 + 1 + g.news.size + 1 + 1 := by omega
@[simp, go_sem] theorem sz45 : a < a + 1 + 1 + g.news.size + 1 + 1 + h.news.size := by omega
@[simp, go_sem] theorem sz46 : a < a + 1 + 1 + g.news.size + 1 + 1 + h.news.size + k.news.size := by omega
@[simp, go_sem] theorem sz47 : a < a + 1 + 1 + g.news.size + 1 + 1 + h.news.size + k.news.size + 1 := by omega
@[simp, go_sem] theorem sz48 : a < a + 1 + 1 + g.news.size + 1 + 1 + h.news.size + 1 := by omega
@[simp, go_sem] theorem sz49 : a < a + 1 + 1 + g.news.size + 1 + 1 + h.news.size + 1 + k.news.size := by omega
@[simp, go_sem] theorem sz50 : a < a + 1 + 1 + g.news.size + 1 + 1 + h.news.size + 1 + k.news.size + 1 := by omega
@[simp, go_sem] theorem sz51 : a < a + 1 + 1 + g.news.size + 1 + 1 + h.news.size + 1 + 1 := by omega
@[simp, go_sem] theorem sz52 : a < a + 1 + 1 + g.news.size + 1 + 1 + 1 := by omega
@[simp, go_sem] theorem sz53 : a < a + 1 + 1 + g.news.size + 1 + 1 + 1 + h.news.size := by omega
@[simp, go_sem] theorem sz54 : a < a + 1 + 1 + g.news.size + 1 + 1 + 1 + h.news.size + 1 := by omega
@[simp, go_sem] theorem sz55 : a < a + 1 + 1 + g.news.size + 1 + 1 + 1 + h.news.size + 1 + 1 := by omega
@[simp, go_sem] theorem sz56 : a < a + 1 + 1 + 1 + g.news.size := by omega
@[simp, go_sem] theorem sz57 : a < a + 1 + 1 + 1 + g.news.size + h.news.size := by omega
@[simp, go_sem] theorem sz58 : a < a + 1 + 1 + 1 + g.news.size + h.news.size + k.news.size := by omega
@[simp, go_sem] theorem sz59 : a < a + 1 + 1 + 1 + g.news.size + h.news.size + k.news.size + 1 := by omega
@[simp, go_sem] theorem sz60 : a < a + 1 + 1 + 1 + g.news.size + h.news.size + 1 := by omega
@[simp, go_sem] theorem sz61 : a < a + 1 + 1 + 1 + g.news.size + h.news.size + 1 + k.news.size := by omega
@[simp, go_sem] theorem sz62 : a < a + 1 + 1 + 1 + g.news.size + h.news.size + 1 + k.news.size + 1 := by omega
@[simp, go_sem] theorem sz63 : a < a + 1 + 1 + 1 + g.news.size + h.news.size + 1 + 1 := by omega
@[simp, go_sem] theorem sz64 : a < a + 1 + 1 + 1 + g.news.size + 1 := by omega
@[simp, go_sem] theorem sz65 : a < a + 1 + 1 + 1 + g.news.size + 1 + h.news.size := by omega
@[simp, go_sem] theorem sz66 : a < a + 1 + 1 + 1 + g.news.size + 1 + h.news.size + k.news.size := by omega
@[simp, go_sem] theorem sz67 : a < a + 1 + 1 + 1 + g.news.size + 1 + h.news.size + k.news.size + 1 := by omega
@[simp, go_sem] theorem sz68 : a < a + 1 + 1 + 1 + g.news.size + 1 + h.news.size + 1 := by omega
@[simp, go_sem] theorem sz69 : a < a + 1 + 1 + 1 + g.news.size + 1 + h.news.size + 1 + k.news.size := by omega
@[simp, go_sem] theorem sz70 : a < a + 1 + 1 + 1 + g.news.size + 1 + h.news.size + 1 + k.news.size + 1 := by omega
@[simp, go_sem] theorem sz71 : a < a + 1 + 1 + 1 + g.news.size + 1 + h.news.size + 1 + 1 := by omega
@[simp, go_sem] theorem sz72 : a < a + 1 + 1 + 1 + g.news.size + 1 + 1 := by omega
@[simp, go_sem] theorem sz73 : a < a + 1 + 1 + 1 + g.news.size + 1 + 1 + h.news.size := by omega
@[simp, go_sem] theorem sz74 : a < a + 1 + 1 + 1 + g.news.size + 1 + 1 + h.news.size + k.news.size := by omega
@[simp, go_sem] theorem sz75 : a < a + 1 + 1 + 1 + g.news.size + 1 + 1 + h.news.size + k.news.size + 1 := by omega
@[simp, go_sem] theorem sz76 : a < a + 1 + 1 + 1 + g.news.size + 1 + 1 + h.news.size + 1 := by omega
@[simp, go_sem] theorem sz77 : a < a + 1 + 1 + 1 + g.news.size + 1 + 1 + h.news.size + 1 + k.news.size := by omega
@[simp, go_sem] theorem sz78 : a < a + 1 + 1 + 1 + g.news.size + 1 + 1 + h.news.size + 1 + k.news.size + 1 := by omega
@[simp, go_sem] theorem sz79 : a < a + 1 + 1 + 1 + g.news.size + 1 + 1 + h.news.size + 1 + 1 := by omega
@[simp, go_sem] theorem sz80 : a < a + 1 + 1 + 1 + g.news.size + 1 + 1 + 1 := by omega
@[simp, go_sem] theorem sz81 : a < a + 1 + 1 + 1 + g.news.size + 1 + 1 + 1 + h.news.size := by omega
@[simp, go_sem] theorem sz82 : a < a + 1 + 1 + 1 + g.news.size + 1 + 1 + 1 + h.news.size + 1 := by omega
@[simp, go_sem] theorem sz83 : a < a + 1 + 1 + 1 + g.news.size + 1 + 1 + 1 + h.news.size + 1 + 1 := by omega
@[simp, go_sem] theorem sz84 : a < a + 1 + 1 + 1 + 1 + g.news.size := by omega
@[simp, go_sem] theorem sz85 : a < a + 1 + 1 + 1 + 1 + g.news.size + h.news.size := by omega
@[simp, go_sem] theorem sz86 : a < a + 1 + 1 + 1 + 1 + g.news.size + h.news.size + k.news.size := by omega
@[simp, go_sem] theorem sz87 : a < a + 1 + 1 + 1 + 1 + g.news.size + h.news.size + k.news.size + 1 := by omega
@[simp, go_sem] theorem sz88 : a < a + 1 + 1 + 1 + 1 + g.news.size + h.news.size + 1 := by omega
@[simp, go_sem] theorem sz89 : a < a + 1 + 1 + 1 + 1 + g.news.size + h.news.size + 1 + k.news.size := by omega
@[simp, go_sem] theorem sz90 : a < a + 1 + 1 + 1 + 1 + g.news.size + h.news.size + 1 + k.news.size + 1 := by omega
@[simp, go_sem] theorem sz91 : a < a + 1 + 1 + 1 + 1 + g.news.size + h.news.size + 1 + 1 := by omega
@[simp, go_sem] theorem sz92 : a < a + 1 + 1 + 1 + 1 + g.news.size + 1 := by omega
@[simp, go_sem] theorem sz93 : a < a + 1 + 1 + 1 + 1 + g.news.size + 1 + h.news.size := by omega
@[simp, go_sem] theorem sz94 : a < a + 1 + 1 + 1 + 1 + g.news.size + 1 + h.news.size + k.news.size := by omega
@[simp, go_sem] theorem sz95 : a < a + 1 + 1 + 1 + 1 + g.news.size + 1 + h.news.size + k.news.size + 1 := by omega
@[simp, go_sem] theorem sz96 : a < a + 1 + 1 + 1 + 1 + g.news.size + 1 + h.news.size + 1 := by omega
@[simp, go_sem] theorem sz97 : a < a + 1 + 1 + 1 + 1 + g.news.size + 1 + h.news.size + 1 + k.news.size := by omega
@[simp, go_sem] theorem sz98 : a < a + 1 + 1 + 1 + 1 + g.news.size + 1 + h.news.size + 1 + k.news.size + 1 := by omega
@[simp, go_sem] theorem sz99 : a < a + 1 + 1 + 1 + 1 + g.news.size + 1 + h.news.size + 1 + 1 := by omega
@[simp, go_sem] theorem sz100 : a < a + 1 + 1 + 1 + 1 + g.news.size + 1 + 1 := by omega
@[simp, go_sem] theorem sz101 : a < a + 1 + 1 + 1 + 1 + g.news.size + 1 + 1 + h.news.size := by omega
@[simp, go_sem] theorem sz102 : a < a + 1 + 1 + 1 + 1 + g.news.size + 1 + 1 + h.news.size + k.news.size := by omega
@[simp, go_sem] theorem sz103 : a < a + 1 + 1 + 1 + 1 + g.news.size + 1 + 1 + h.news.size + k.news.size + 1 := by omega
@[simp, go_sem] theorem sz104 : a < a + 1 + 1 + 1 + 1 + g.news.size + 1 + 1 + h.news.size + 1 := by omega
@[simp, go_sem] theorem sz105 : a < a + 1 + 1 + 1 + 1 + g.news.size + 1 + 1 + h.news.size + 1 + k.news.size := by omega
@[simp, go_sem] theorem sz106 : a < a + 1 + 1 + 1 + 1 + g.news.size + 1 + 1 + h.news.size + 1 + k.news.size + 1 := by omega
@[simp, go_sem] theorem sz107 : a < a + 1 + 1 + 1 + 1 + g.news.size + 1 + 1 + h.news.size + 1 + 1 := by omega
@[simp, go_sem] theorem sz108 : a < a + 1 + 1 + 1 + 1 + g.news.size + 1 + 1 + 1 := by omega
@[simp, go_sem] theorem sz109 : a < a + 1 + 1 + 1 + 1 + g.news.size + 1 + 1 + 1 + h.news.size := by omega
@[simp, go_sem] theorem sz110 : a < a + 1 + 1 + 1 + 1 + g.news.size + 1 + 1 + 1 + h.news.size + 1 := by omega
@[simp, go_sem] theorem sz111 : a < a + 1 + 1 + 1 + 1 + g.news.size + 1 + 1 + 1 + h.news.size + 1 + 1 := by omega
@[simp, go_sem] theorem sz112 : a + 1 < a + 1 + 1 + g.news.size := by omega
@[simp, go_sem] theorem sz113 : a + 1 < a + 1 + 1 + g.news.size + h.news.size := by omega
@[simp, go_sem] theorem sz114 : a + 1 < a + 1 + 1 + g.news.size + h.news.size + k.news.size := by omega
@[simp, go_sem] theorem sz115 : a + 1 < a + 1 + 1 + g.news.size + h.news.size + k.news.size + 1 := by omega
@[simp, go_sem] theorem sz116 : a + 1 < a + 1 + 1 + g.news.size + h.news.size + 1 := by omega
@[simp, go_sem] theorem sz117 : a + 1 < a + 1 + 1 + g.news.size + h.news.size + 1 + k.news.size := by omega
@[simp, go_sem] theorem sz118 : a + 1 < a + 1 + 1 + g.news.size + h.news.size + 1 + k.news.size + 1 := by omega
@[simp, go_sem] theorem sz119 : a + 1 < a + 1 + 1 + g.news.size + h.news.size + 1 + 1 := by omega
@[simp, go_sem] theorem sz120 : a + 1 < a + 1 + 1 + g.news.size + 1 := by omega
@[simp, go_sem] theorem sz121 : a + 1 < a + 1 + 1 + g.news.size + 1 + h.news.size := by omega
@[simp, go_sem] theorem sz122 : a + 1 < a + 1 + 1 + g.news.size + 1 + h.news.size + k.news.size := by omega
@[simp, go_sem] theorem sz123 : a + 1 < a + 1 + 1 + g.news.size + 1 + h.news.size + k.news.size + 1 := by omega
@[simp, go_sem] theorem sz124 : a + 1 < a + 1 + 1 + g.news.size + 1 + h.news.size + 1 := by omega
@[simp, go_sem] theorem sz125 : a + 1 < a + 1 + 1 + g.news.size + 1 + h.news.size + 1 + k.news.size := by omega
@[simp, go_sem] theorem sz126 : a + 1 < a + 1 + 1 + g.news.size + 1 + h.news.size + 1 + k.news.size + 1 := by omega
@[simp, go_sem] theorem sz127 : a + 1 < a + 1 + 1 + g.news.size + 1 + h.news.size + 1 + 1 := by omega
@[simp, go_sem] theorem sz128 : a + 1 < a + 1 + 1 + g.news.size + 1 + 1 := by omega
@[simp, go_sem] theorem sz129 : a + 1 < a + 1 + 1 + g.news.size + 1 + 1 + h.news.size := by omega
@[simp, go_sem] theorem sz130 : a + 1 < a + 1 + 1 + g.news.size + 1 + 1 + h.news.size + k.news.size := by omega
@[simp, go_sem] theorem sz131 : a + 1 < a + 1 + 1 + g.news.size + 1 + 1 + h.news.size + k.news.size + 1 := by omega
@[simp, go_sem] theorem sz132 : a + 1 < a + 1 + 1 + g.news.size + 1 + 1 + h.news.size + 1 := by omega
@[simp, go_sem] theorem sz133 : a + 1 < a + 1 + 1 + g.news.size + 1 + 1 + h.news.size + 1 + k.news.size := by omega
@[simp, go_sem] theorem sz134 : a + 1 < a + 1 + 1 + g.news.size + 1 + 1 + h.news.size + 1 + k.news.size + 1 := by omega
@[simp, go_sem] theorem sz135 : a + 1 < a + 1 + 1 + g.news.size + 1 + 1 + h.news.size + 1 + 1 := by omega
@[simp, go_sem] theorem sz136 : a + 1 < a + 1 + 1 + g.news.size + 1 + 1 + 1 := by omega
@[simp, go_sem] theorem sz137 : a + 1 < a + 1 + 1 + g.news.size + 1 + 1 + 1 + h.news.size := by omega
@[simp, go_sem] theorem sz138 : a + 1 < a + 1 + 1 + g.news.size + 1 + 1 + 1 + h.news.size + 1 := by omega
@[simp, go_sem] theorem sz139 : a + 1 < a + 1 + 1 + g.news.size + 1 + 1 + 1 + h.news.size + 1 + 1 := by omega
@[simp, go_sem] theorem sz140 : a + 1 < a + 1 + 1 + 1 + g.news.size := by omega
@[simp, go_sem] theorem sz141 : a + 1 < a + 1 + 1 + 1 + g.news.size + h.news.size := by omega
@[simp, go_sem] theorem sz142 : a + 1 < a + 1 + 1 + 1 + g.news.size + h.news.size + k.news.size := by omega
@[simp, go_sem] theorem sz143 : a + 1 < a + 1 + 1 + 1 + g.news.size + h.news.size + k.news.size + 1 := by omega
@[simp, go_sem] theorem sz144 : a + 1 < a + 1 + 1 + 1 + g.news.size + h.news.size + 1 := by omega
@[simp, go_sem] theorem sz145 : a + 1 < a + 1 + 1 + 1 + g.news.size + h.news.size + 1 + k.news.size := by omega
@[simp, go_sem] theorem sz146 : a + 1 < a + 1 + 1 + 1 + g.news.size + h.news.size + 1 + k.news.size + 1 := by omega
@[simp, go_sem] theorem sz147 : a + 1 < a + 1 + 1 + 1 + g.news.size + h.news.size + 1 + 1 := by omega
@[simp, go_sem] theorem sz148 : a + 1 < a + 1 + 1 + 1 + g.news.size + 1 := by omega
@[simp, go_sem] theorem sz149 : a + 1 < a + 1 + 1 + 1 + g.news.size + 1 + h.news.size := by omega
@[simp, go_sem] theorem sz150 : a + 1 < a + 1 + 1 + 1 + g.news.size + 1 + h.news.size + k.news.size := by omega
@[simp, go_sem] theorem sz151 : a + 1 < a + 1 + 1 + 1 + g.news.size + 1 + h.news.size + k.news.size + 1 := by omega
@[simp, go_sem] theorem sz152 : a + 1 < a + 1 + 1 + 1 + g.news.size + 1 + h.news.size + 1 := by omega
@[simp, go_sem] theorem sz153 : a + 1 < a + 1 + 1 + 1 + g.news.size + 1 + h.news.size + 1 + k.news.size := by omega
@[simp, go_sem] theorem sz154 : a + 1 < a + 1 + 1 + 1 + g.news.size + 1 + h.news.size + 1 + k.news.size + 1 := by omega
@[simp, go_sem] theorem sz155 : a + 1 < a + 1 + 1 + 1 + g.news.size + 1 + h.news.size + 1 + 1 := by omega
@[simp, go_sem] theorem sz156 : a + 1 < a + 1 + 1 + 1 + g.news.size + 1 + 1 := by omega
@[simp, go_sem] theorem sz157 : a + 1 < a + 1 + 1 + 1 + g.news.size + 1 + 1 + h.news.size := by omega
@[simp, go_sem] theorem sz158 : a + 1 < a + 1 + 1 + 1 + g.news.size + 1 + 1 + h.news.size + k.news.size := by omega
@[simp, go_sem] theorem sz159 : a + 1 < a + 1 + 1 + 1 + g.news.size + 1 + 1 + h.news.size + k.news.size + 1 := by omega
@[simp, go_sem] theorem sz160 : a + 1 < a + 1 + 1 + 1 + g.news.size + 1 + 1 + h.news.size + 1 := by omega
@[simp, go_sem] theorem sz161 : a + 1 < a + 1 + 1 + 1 + g.news.size + 1 + 1 + h.news.size + 1 + k.news.size := by omega
@[simp, go_sem] theorem sz162 : a + 1 < a + 1 + 1 + 1 + g.news.size + 1 + 1 + h.news.size + 1 + k.news.size + 1 := by omega
@[simp, go_sem] theorem sz163 : a + 1 < a + 1 + 1 + 1 + g.news.size + 1 + 1 + h.news.size + 1 + 1 := by omega
@[simp, go_sem] theorem sz164 : a + 1 < a + 1 + 1 + 1 + g.news.size + 1 + 1 + 1 := by omega
@[simp, go_sem] theorem sz165 : a + 1 < a + 1 + 1 + 1 + g.news.size + 1 + 1 + 1 + h.news.size := by omega
@[simp, go_sem] theorem sz166 : a + 1 < a + 1 + 1 + 1 + g.news.size + 1 + 1 + 1 + h.news.size + 1 := by omega
@[simp, go_sem] theorem sz167 : a + 1 < a + 1 + 1 + 1 + g.news.size + 1 + 1 + 1 + h.news.size + 1 + 1 := by omega
@[simp, go_sem] theorem sz168 : a + 1 < a + 1 + 1 + 1 + 1 + g.news.size := by omega
@[simp, go_sem] theorem sz169 : a + 1 < a + 1 + 1 + 1 + 1 + g.news.size + h.news.size := by omega
@[simp, go_sem] theorem sz170 : a + 1 < a + 1 + 1 + 1 + 1 + g.news.size + h.news.size + k.news.size := by omega
@[simp, go_sem] theorem sz171 : a + 1 < a + 1 + 1 + 1 + 1 + g.news.size + h.news.size + k.news.size + 1 := by omega
@[simp, go_sem] theorem sz172 : a + 1 < a + 1 + 1 + 1 + 1 + g.news.size + h.news.size + 1 := by omega
@[simp, go_sem] theorem sz173 : a + 1 < a + 1 + 1 + 1 + 1 + g.news.size + h.news.size + 1 + k.news.size := by omega
@[simp, go_sem] theorem sz174 : a + 1 < a + 1 + 1 + 1 + 1 + g.news.size + h.news.size + 1 + k.news.size + 1 := by omega
@[simp, go_sem] theorem sz175 : a + 1 < a + 1 + 1 + 1 + 1 + g.news.size + h.news.size + 1 + 1 := by omega
@[simp, go_sem] theorem sz176 : a + 1 < a + 1 + 1 + 1 + 1 + g.news.size + 1 := by omega
@[simp, go_sem] theorem sz177 : a + 1 < a + 1 + 1 + 1 + 1 + g.news.size + 1 + h.news.size := by omega
@[simp, go_sem] theorem sz178 : a + 1 < a + 1 + 1 + 1 + 1 + g.news.size + 1 + h.news.size + k.news.size := by omega
@[simp, go_sem] theorem sz179 : a + 1 < a + 1 + 1 + 1 + 1 + g.news.size + 1 + h.news.size + k.news.size + 1 := by omega
@[simp, go_sem] theorem sz180 : a + 1 < a + 1 + 1 + 1 + 1 + g.news.size + 1 + h.news.size + 1 := by omega
@[simp, go_sem] theorem sz181 : a + 1 < a + 1 + 1 + 1 + 1 + g.news.size + 1 + h.news.size + 1 + k.news.size := by omega
@[simp, go_sem] theorem sz182 : a + 1 < a + 1 + 1 + 1 + 1 + g.news.size + 1 + h.news.size + 1 + k.news.size + 1 := by omega
@[simp, go_sem] theorem sz183 : a + 1 < a + 1 + 1 + 1 + 1 + g.news.size + 1 + h.news.size + 1 + 1 := by omega
@[simp, go_sem] theorem sz184 : a + 1 < a + 1 + 1 + 1 + 1 + g.news.size + 1 + 1 := by omega
@[simp, go_sem] theorem sz185 : a + 1 < a + 1 + 1 + 1 + 1 + g.news.size + 1 + 1 + h.news.size := by omega
@[simp, go_sem] theorem sz186 : a + 1 < a + 1 + 1 + 1 + 1 + g.news.size + 1 + 1 + h.news.size + k.news.size := by omega
@[simp, go_sem] theorem sz187 : a + 1 < a + 1 + 1 + 1 + 1 + g.news.size + 1 + 1 + h.news.size + k.news.size + 1 := by omega
@[simp, go_sem] theorem sz188 : a + 1 < a + 1 + 1 + 1 + 1 + g.news.size + 1 + 1 + h.news.size + 1 := by omega
@[simp, go_sem] theorem sz189 : a + 1 < a + 1 + 1 + 1 + 1 + g.news.size + 1 + 1 + h.news.size + 1 + k.news.size := by omega
@[simp, go_sem] theorem sz190 : a + 1 < a + 1 + 1 + 1 + 1 + g.news.size + 1 + 1 + h.news.size + 1 + k.news.size + 1 := by omega
@[simp, go_sem] theorem sz191 : a + 1 < a + 1 + 1 + 1 + 1 + g.news.size + 1 + 1 + h.news.size + 1 + 1 := by omega
@[simp, go_sem] theorem sz192 : a + 1 < a + 1 + 1 + 1 + 1 + g.news.size + 1 + 1 + 1 := by omega
@[simp, go_sem] theorem sz193 : a + 1 < a + 1 + 1 + 1 + 1 + g.news.size + 1 + 1 + 1 + h.news.size := by omega
@[simp, go_sem] theorem sz194 : a + 1 < a + 1 + 1 + 1 + 1 + g.news.size + 1 + 1 + 1 + h.news.size + 1 := by omega
@[simp, go_sem] theorem sz195 : a + 1 < a + 1 + 1 + 1 + 1 + g.news.size + 1 + 1 + 1 + h.news.size + 1 + 1 := by omega
@[simp, go_sem] theorem sz196 : a + 1 + 1 < a + 1 + 1 + 1 + g.news.size := by omega
@[simp, go_sem] theorem sz197 : a + 1 + 1 < a + 1 + 1 + 1 + g.news.size + h.news.size := by omega
@[simp, go_sem] theorem sz198 : a + 1 + 1 < a + 1 + 1 + 1 + g.news.size + h.news.size + k.news.size := by omega
@[simp, go_sem] theorem sz199 : a + 1 + 1 < a + 1 + 1 + 1 + g.news.size + h.news.size + k.news.size + 1 := by omega
@[simp, go_sem] theorem sz200 : a + 1 + 1 < a + 1 + 1 + 1 + g.news.size + h.news.size + 1 := by omega
@[simp, go_sem] theorem sz201 : a + 1 + 1 < a + 1 + 1 + 1 + g.news.size + h.news.size + 1 + k.news.size := by omega
@[simp, go_sem] theorem sz202 : a + 1 + 1 < a + 1 + 1 + 1 + g.news.size + h.news.size + 1 + k.news.size + 1 := by omega
@[simp, go_sem] theorem sz203 : a + 1 + 1 < a + 1 + 1 + 1 + g.news.size + h.news.size + 1 + 1 := by omega
@[simp, go_sem] theorem sz204 : a + 1 + 1 < a + 1 + 1 + 1 + g.news.size + 1 := by omega
@[simp, go_sem] theorem sz205 : a + 1 + 1 < a + 1 + 1 + 1 + g.news.size + 1 + h.news.size := by omega
@[simp, go_sem] theorem sz206 : a + 1 + 1 < a + 1 + 1 + 1 + g.news.size + 1 + h.news.size + k.news.size := by omega
@[simp, go_sem] theorem sz207 : a + 1 + 1 < a + 1 + 1 + 1 + g.news.size + 1 + h.news.size + k.news.size + 1 := by omega
@[simp, go_sem] theorem sz208 : a + 1 + 1 < a + 1 + 1 + 1 + g.news.size + 1 + h.news.size + 1 := by omega
@[simp, go_sem] theorem sz209 : a + 1 + 1 < a + 1 + 1 + 1 + g.news.size + 1 + h.news.size + 1 + k.news.size := by omega
@[simp, go_sem] theorem sz210 : a + 1 + 1 < a + 1 + 1 + 1 + g.news.size + 1 + h.news.size + 1 + k.news.size + 1 := by omega
@[simp, go_sem] theorem sz211 : a + 1 + 1 < a + 1 + 1 + 1 + g.news.size + 1 + h.news.size + 1 + 1 := by omega
@[simp, go_sem] theorem sz212 : a + 1 + 1 < a + 1 + 1 + 1 + g.news.size + 1 + 1 := by omega
@[simp, go_sem] theorem sz213 : a + 1 + 1 < a + 1 + 1 + 1 + g.news.size + 1 + 1 + h.news.size := by omega
@[simp, go_sem] theorem sz214 : a + 1 + 1 < a + 1 + 1 + 1 + g.news.size + 1 + 1 + h.news.size + k.news.size := by omega
@[simp, go_sem] theorem sz215 : a + 1 + 1 < a + 1 + 1 + 1 + g.news.size + 1 + 1 + h.news.size + k.news.size + 1 := by omega
@[simp, go_sem] theorem sz216 : a + 1 + 1 < a + 1 + 1 + 1 + g.news.size + 1 + 1 + h.news.size + 1 := by omega
@[simp, go_sem] theorem sz217 : a + 1 + 1 < a + 1 + 1 + 1 + g.news.size + 1 + 1 + h.news.size + 1 + k.news.size := by omega
@[simp, go_sem] theorem sz218 : a + 1 + 1 < a + 1 + 1 + 1 + g.news.size + 1 + 1 + h.news.size + 1 + k.news.size + 1 := by omega
@[simp, go_sem] theorem sz219 : a + 1 + 1 < a + 1 + 1 + 1 + g.news.size + 1 + 1 + h.news.size + 1 + 1 := by omega
@[simp, go_sem] theorem sz220 : a + 1 + 1 < a + 1 + 1 + 1 + g.news.size + 1 + 1 + 1 := by omega
@[simp, go_sem] theorem sz221 : a + 1 + 1 < a + 1 + 1 + 1 + g.news.size + 1 + 1 + 1 + h.news.size := by omega
@[simp, go_sem] theorem sz222 : a + 1 + 1 < a + 1 + 1 + 1 + g.news.size + 1 + 1 + 1 + h.news.size + 1 := by omega
@[simp, go_sem] theorem sz223 : a + 1 + 1 < a + 1 + 1 + 1 + g.news.size + 1 + 1 + 1 + h.news.size + 1 + 1 := by omega
@[simp, go_sem] theorem sz224 : a + 1 + 1 < a + 1 + 1 + 1 + 1 + g.news.size := by omega
@[simp, go_sem] theorem sz225 : a + 1 + 1 < a + 1 + 1 + 1 + 1 + g.news.size + h.news.size := by omega
@[simp, go_sem] theorem sz226 : a + 1 + 1 < a + 1 + 1 + 1 + 1 + g.news.size + h.news.size + k.news.size := by omega
@[simp, go_sem] theorem sz227 : a + 1 + 1 < a + 1 + 1 + 1 + 1 + g.news.size + h.news.size + k.news.size + 1 := by omega
@[simp, go_sem] theorem sz228 : a + 1 + 1 < a + 1 + 1 + 1 + 1 + g.news.size + h.news.size + 1 := by omega
@[simp, go_sem] theorem sz229 : a + 1 + 1 < a + 1 + 1 + 1 + 1 + g.news.size + h.news.size + 1 + k.news.size := by omega
@[simp, go_sem] theorem sz230 : a + 1 + 1 < a + 1 + 1 + 1 + 1 + g.news.size + h.news.size + 1 + k.news.size + 1 := by omega
@[simp, go_sem] theorem sz231 : a + 1 + 1 < a + 1 + 1 + 1 + 1 + g.news.size + h.news.size + 1 + 1 := by omega
@[simp, go_sem] theorem sz232 : a + 1 + 1 < a + 1 + 1 + 1 + 1 + g.news.size + 1 := by omega
@[simp, go_sem] theorem sz233 : a + 1 + 1 < a + 1 + 1 + 1 + 1 + g.news.size + 1 + h.news.size := by omega
@[simp, go_sem] theorem sz234 : a + 1 + 1 < a + 1 + 1 + 1 + 1 + g.news.size + 1 + h.news.size + k.news.size := by omega
@[simp, go_sem] theorem sz235 : a + 1 + 1 < a + 1 + 1 + 1 + 1 + g.news.size + 1 + h.news.size + k.news.size + 1 := by omega
@[simp, go_sem] theorem sz236 : a + 1 + 1 < a + 1 + 1 + 1 + 1 + g.news.size + 1 + h.news.size + 1 := by omega
@[simp, go_sem] theorem sz237 : a + 1 + 1 < a + 1 + 1 + 1 + 1 + g.news.size + 1 + h.news.size + 1 + k.news.size := by omega
@[simp, go_sem] theorem sz238 : a + 1 + 1 < a + 1 + 1 + 1 + 1 + g.news.size + 1 + h.news.size + 1 + k.news.size + 1 := by omega
@[simp, go_sem] theorem sz239 : a + 1 + 1 < a + 1 + 1 + 1 + 1 + g.news.size + 1 + h.news.size + 1 + 1 := by omega
@[simp, go_sem] theorem sz240 : a + 1 + 1 < a + 1 + 1 + 1 + 1 + g.news.size + 1 + 1 := by omega
@[simp, go_sem] theorem sz241 : a + 1 + 1 < a + 1 + 1 + 1 + 1 + g.news.size + 1 + 1 + h.news.size := by omega
@[simp, go_sem] theorem sz242 : a + 1 + 1 < a + 1 + 1 + 1 + 1 + g.news.size + 1 + 1 + h.news.size + k.news.size := by omega
@[simp, go_sem] theorem sz243 : a + 1 + 1 < a + 1 + 1 + 1 + 1 + g.news.size + 1 + 1 + h.news.size + k.news.size + 1 := by omega
@[simp, go_sem] theorem sz244 : a + 1 + 1 < a + 1 + 1 + 1 + 1 + g.news.size + 1 + 1 + h.news.size + 1 := by omega
@[simp, go_sem] theorem sz245 : a + 1 + 1 < a + 1 + 1 + 1 + 1 + g.news.size + 1 + 1 + h.news.size + 1 + k.news.size := by omega
@[simp, go_sem] theorem sz246 : a + 1 + 1 < a + 1 + 1 + 1 + 1 + g.news.size + 1 + 1 + h.news.size + 1 + k.news.size + 1 := by omega
@[simp, go_sem] theorem sz247 : a + 1 + 1 < a + 1 + 1 + 1 + 1 + g.news.size + 1 + 1 + h.news.size + 1 + 1 := by omega
@[simp, go_sem] theorem sz248 : a + 1 + 1 < a + 1 + 1 + 1 + 1 + g.news.size + 1 + 1 + 1 := by omega
@[simp, go_sem] theorem sz249 : a + 1 + 1 < a + 1 + 1 + 1 + 1 + g.news.size + 1 + 1 + 1 + h.news.size := by omega
@[simp, go_sem] theorem sz250 : a + 1 + 1 < a + 1 + 1 + 1 + 1 + g.news.size + 1 + 1 + 1 + h.news.size + 1 := by omega
@[simp, go_sem] theorem sz251 : a + 1 + 1 < a + 1 + 1 + 1 + 1 + g.news.size + 1 + 1 + 1 + h.news.size + 1 + 1 := by omega
@[simp, go_sem] theorem sz252 : a + 1 + 1 + 1 < a + 1 + 1 + 1 + 1 + g.news.size := by omega
@[simp, go_sem] theorem sz253 : a + 1 + 1 + 1 < a + 1 + 1 + 1 + 1 + g.news.size + h.news.size := by omega
@[simp, go_sem] theorem sz254 : a + 1 + 1 + 1 < a + 1 + 1 + 1 + 1 + g.news.size + h.news.size + k.news.size := by omega
@[simp, go_sem] theorem sz255 : a + 1 + 1 + 1 < a + 1 + 1 + 1 + 1 + g.news.size + h.news.size + k.news.size + 1 := by omega
@[simp, go_sem] theorem sz256 : a + 1 + 1 + 1 < a + 1 + 1 + 1 + 1 + g.news.size + h.news.size + 1 := by omega
@[simp, go_sem] theorem sz257 : a + 1 + 1 + 1 < a + 1 + 1 + 1 + 1 + g.news.size + h.news.size + 1 + k.news.size := by omega
@[simp, go_sem] theorem sz258 : a + 1 + 1 + 1 < a + 1 + 1 + 1 + 1 + g.news.size + h.news.size + 1 + k.news.size + 1 := by omega
@[simp, go_sem] theorem sz259 : a + 1 + 1 + 1 < a + 1 + 1 + 1 + 1 + g.news.size + h.news.size + 1 + 1 := by omega
@[simp, go_sem] theorem sz260 : a + 1 + 1 + 1 < a + 1 + 1 + 1 + 1 + g.news.size + 1 := by omega
@[simp, go_sem] theorem sz261 : a + 1 + 1 + 1 < a + 1 + 1 + 1 + 1 + g.news.size + 1 + h.news.size := by omega
@[simp, go_sem] theorem sz262 : a + 1 + 1 + 1 < a + 1 + 1 + 1 + 1 + g.news.size + 1 + h.news.size + k.news.size := by omega
@[simp, go_sem] theorem sz263 : a + 1 + 1 + 1 < a + 1 + 1 + 1 + 1 + g.news.size + 1 + h.news.size + k.news.size + 1 := by omega
@[simp, go_sem] theorem sz264 : a + 1 + 1 + 1 < a + 1 + 1 + 1 + 1 + g.news.size + 1 + h.news.size + 1 := by omega
@[simp, go_sem] theorem sz265 : a + 1 + 1 + 1 < a + 1 + 1 + 1 + 1 + g.news.size + 1 + h.news.size + 1 + k.news.size := by omega
@[simp, go_sem] theorem sz266 : a + 1 + 1 + 1 < a + 1 + 1 + 1 + 1 + g.news.size + 1 + h.news.size + 1 + k.news.size + 1 := by omega
@[simp, go_sem] theorem sz267 : a + 1 + 1 + 1 < a + 1 + 1 + 1 + 1 + g.news.size + 1 + h.news.size + 1 + 1 := by omega
@[simp, go_sem] theorem sz268 : a + 1 + 1 + 1 < a + 1 + 1 + 1 + 1 + g.news.size + 1 + 1 := by omega
@[simp, go_sem] theorem sz269 : a + 1 + 1 + 1 < a + 1 + 1 + 1 + 1 + g.news.size + 1 + 1 + h.news.size := by omega
@[simp, go_sem] theorem sz270 : a + 1 + 1 + 1 < a + 1 + 1 + 1 + 1 + g.news.size + 1 + 1 + h.news.size + k.news.size := by omega
@[simp, go_sem] theorem sz271 : a + 1 + 1 + 1 < a + 1 + 1 + 1 + 1 + g.news.size + 1 + 1 + h.news.size + k.news.size + 1 := by omega
@[simp, go_sem] theorem sz272 : a + 1 + 1 + 1 < a + 1 + 1 + 1 + 1 + g.news.size + 1 + 1 + h.news.size + 1 := by omega
@[simp, go_sem] theorem sz273 : a + 1 + 1 + 1 < a + 1 + 1 + 1 + 1 + g.news.size + 1 + 1 + h.news.size + 1 + k.news.size := by omega
@[simp, go_sem] theorem sz274 : a + 1 + 1 + 1 < a + 1 + 1 + 1 + 1 + g.news.size + 1 + 1 + h.news.size + 1 + k.news.size + 1 := by omega
@[simp, go_sem] theorem sz275 : a + 1 + 1 + 1 < a + 1 + 1 + 1 + 1 + g.news.size + 1 + 1 + h.news.size + 1 + 1 := by omega
@[simp, go_sem] theorem sz276 : a + 1 + 1 + 1 < a + 1 + 1 + 1 + 1 + g.news.size + 1 + 1 + 1 := by omega
@[simp, go_sem] theorem sz277 : a + 1 + 1 + 1 < a + 1 + 1 + 1 + 1 + g.news.size + 1 + 1 + 1 + h.news.size := by omega
@[simp, go_sem] theorem sz278 : a + 1 + 1 + 1 < a + 1 + 1 + 1 + 1 + g.news.size + 1 + 1 + 1 + h.news.size + 1 := by omega
@[simp, go_sem] theorem sz279 : a + 1 + 1 + 1 < a + 1 + 1 + 1 + 1 + g.news.size + 1 + 1 + 1 + h.news.size + 1 + 1 := by omega
@[simp, go_sem] theorem sz280 : a < a + 1 + 1 := by omega
@[simp, go_sem] theorem sz281 : a < a + 1 + 1 + 1 := by omega
@[simp, go_sem] theorem sz282 : a < a + 1 + 1 + 1 + 1 := by omega
@[simp, go_sem] theorem sz283 : a < a + 1 + 1 + 1 + 1 + 1 := by omega
@[simp, go_sem] theorem sz284 : a + 1 < a + 1 + 1 + 1 := by omega
@[simp, go_sem] theorem sz285 : a + 1 < a + 1 + 1 + 1 + 1 := by omega
@[simp, go_sem] theorem sz286 : a + 1 < a + 1 + 1 + 1 + 1 + 1 := by omega
@[simp, go_sem] theorem sz287 : a + 1 + 1 < a + 1 + 1 + 1 + 1 := by omega
@[simp, go_sem] theorem sz288 : a + 1 + 1 < a + 1 + 1 + 1 + 1 + 1 := by omega
@[simp, go_sem] theorem sz289 : a + 1 + 1 + 1 < a + 1 + 1 + 1 + 1 + 1 := by omega
end
@[simp, go_sem] theorem lt_news {k a : Nat} (g : Growth) (h : k < a) : k < a + g.news.size := by omega
@[simp, go_sem] theorem le_news {k a : Nat} (g : Growth) (h : k ≤ a) : k ≤ a + g.news.size := by omega

theorem below_grow {B : Nat} (w : World) (g : Growth) (hB : B ≤ w.heap.size) : Below B w (grow w g) :=
  ⟨rfl, rfl, rfl, by simp, fun k hk => heap_grow w g k (by omega)⟩
theorem Grows.below {w w' : World} (h : Grows w w') : Below w.heap.size w w' := by
  obtain ⟨g, rfl⟩ := h
  exact below_grow w g (Nat.le_refl _)
theorem Grows.of_below {w w' : World} (h : Below w.heap.size w w') : Grows w w' := by
  refine ⟨⟨w'.drawn, w'.heap.extract w.heap.size w'.heap.size⟩, ?_⟩
  obtain ⟨heap, tape, drawn, os, output⟩ := w'
  have h1 := h.os
  have h2 := h.tape
  have h3 := h.output
  have h4 := h.size
  have h5 := h.block
  simp only at h1 h2 h3 h4 h5
  subst h1 h2 h3
  simp only [grow]
  congr 1
  apply Array.ext_getElem?
  intro k
  rw [Array.getElem?_append]
  by_cases hk : k < w.heap.size
  · rw [if_pos hk]; exact h5 k hk
  · rw [if_neg hk, Array.getElem?_extract]
    by_cases hk2 : k < heap.size
    · rw [if_pos (by omega)]; congr 1; omega
    · rw [if_neg (by omega)]; exact Array.getElem?_eq_none (by omega)
theorem Grows.refl (w : World) : Grows w w := .of_below (.refl _ _)
theorem Grows.trans {a b c : World} (h : Grows a b) (k : Grows b c) : Grows a c := .of_below (h.below.trans (k.below.mono h.below.size))
theorem Grows.alloc {a b : World} (h : Grows a b) (o : Obj) : Grows a (b.alloc o) := .of_below (h.below.alloc h.below.size o)
theorem Grows.drew {a b : World} (h : Grows a b) : Grows a b.drew := .of_below h.below.drew
theorem Grows.drewN {a b : World} (h : Grows a b) (n : Nat) : Grows a (b.drewN n) := .of_below ⟨h.below.os, h.below.tape, h.below.output, h.below.size, h.below.block⟩
theorem Grows.grow {a b : World} (h : Grows a b) (g : Growth) : Grows a (grow b g) := h.trans ⟨g, rfl⟩
theorem Grows.setCell {a b : World} (h : Grows a b) {p : Addr} (hp : a.heap.size ≤ p.block) (u : Value) : Grows a (b.setCell p u) := .of_below (h.below.setCell hp u)

theorem grows_of_grow {w w' : World} {g : Growth} (h : Grows (grow w g) w') : ∃ k, w' = grow w k := by
  obtain ⟨k, rfl⟩ := h
  exact ⟨⟨k.drawn, g.news ++ k.news⟩, grow_grow w g k⟩

/-! A block of a world that is written out, step by step. -/
theorem blk_at (w : World) (o : Obj) (n : Nat) (h : n = w.heap.size) : (w.alloc o).heap[n]? = some o := by subst h; exact heap_alloc_new w o
theorem blk_past (w : World) (o : Obj) (n : Nat) (h : n < w.heap.size) : (w.alloc o).heap[n]? = w.heap[n]? := heap_alloc_old w o h
theorem blk_drew (w : World) (n : Nat) : w.drew.heap[n]? = w.heap[n]? := rfl

/-- A callee's contract, met in a grown world. -/
theorem grow_of {P : Program} {f : FuncId} {args : Array Value} {w : World} {g : Growth} {v : Value}
    (h : Calls P f args (grow w g) fun e w' => e = .returned v ∧ Grows (grow w g) w') : Calls P f args (grow w g) fun e w'' => e = .returned v ∧ ∃ g', w'' = grow w g' :=
  h.mono fun _ _ ⟨he, g', hm⟩ => ⟨he, ⟨g'.drawn, g.news ++ g'.news⟩, by rw [hm, grow_grow]⟩
/-- .. of a callee that leaves the world alone. -/
theorem grow_same {P : Program} {f : FuncId} {args : Array Value} {w : World} {g : Growth} {v : Value}
    (h : Calls P f args (grow w g) fun e w' => e = .returned v ∧ grow w g = w') : Calls P f args (grow w g) fun e w'' => e = .returned v ∧ ∃ g', w'' = grow w g' :=
  h.mono fun _ _ ⟨he, hm⟩ => ⟨he, _, hm.symm⟩

/-! ### A region that draws: a head of quiet operations in a class of worlds, a tail in one forced order -/
section
variable {P : Program} {ops : Array Oper} {md : Region.Mode} {C : World → Prop}

def headAny (P : Program) (md : Region.Mode) (ops : Array Oper) (C : World → Prop) (n : Nat) (L : Array Bool → Act → Prop) : Nat → Array Bool → Act → Prop
  | 0, listed, a => L listed a
  | f + 1, listed, a => Region.ready md ops listed ≠ [] ∧ ∀ i ∈ Region.ready md ops listed, i < n ∧ qOp P ops C i (headAny P md ops C n L f (listed.setIfInBounds i true)) a

theorem any_of_head {n m : Nat} {L : Array Bool → Act → Prop} {Q' : Exit → Act → World → Prop} (hL : ∀ listed a w, C w → L listed a → wpAny P md ops Q' m listed a w) :
    ∀ (f : Nat) (listed : Array Bool) (a : Act) (w : World), C w → headAny P md ops C n L f listed a → wpAny P md ops Q' (f + m) listed a w := by
  intro f
  induction f with
  | zero => intro listed a w hw h; rw [Nat.zero_add]; exact hL _ _ _ hw h
  | succ f ih =>
    intro listed a w hw h
    rw [show f + 1 + m = (f + m) + 1 from by omega]
    refine ⟨fun h0 => absurd h0 h.1, fun i hi => ?_⟩
    exact wpOp_of_qOp hw (fun a' w' hw' h' => ih _ a' w' hw' h') (h.2 i hi).2

theorem head_first {n i : Nat} {oi : Oper} {v : Value} {L : Array Bool → Act → Prop} (hi : ops[i]? = some oi) (hsel : ∀ (j : Nat) (o : Oper) cs b, ops[j]? = some o → o.op ≠ .select cs b)
    (hs : Region.sinkB md ops n = true) (hc : Region.chainB md ops n = true) (hn : n < ops.size) (hin : i < n) (hdone : ∀ listed a, L listed a → ∀ j ∈ Region.ready md ops listed, n ≤ j) :
    ∀ (f : Nat) (listed : Array Bool) (a : Act), HeadInv md ops n listed →
      (∀ j oj, ops[j]? = some oj → j ≠ i → listed.getD j true = false → (∀ e ∈ oj.after, Region.binds md e = true → e.on ≠ i) → oi.apart ops oj = true) →
      i ∈ Region.ready md ops listed → YieldsIn P ops C oi v a →
      headAny P md ops C n L f (listed.setIfInBounds i true) (a.put oi.dst v) → headAny P md ops C n L (f + 1) listed a := by
  intro f
  induction f with
  | zero =>
    intro listed a inv _ hr hy H
    have hun := (mem_ready.1 hr).1
    refine ⟨fun h => (by rw [h] at hr; cases hr), fun j hj => ?_⟩
    have hjn : j < n := Nat.lt_of_not_le fun h => tail_waits hs hc hn inv _ i rfl hin hun j h hj
    refine ⟨hjn, ?_⟩
    by_cases hji : j = i
    · subst hji; exact hy.qOp hi H
    · exact absurd (hdone _ _ H j (ready_mono hj hji)) (by omega)
  | succ f ih =>
    intro listed a inv hfree hr hy H
    have hun := (mem_ready.1 hr).1
    refine ⟨fun h => (by rw [h] at hr; cases hr), fun j hj => ?_⟩
    have hjn : j < n := Nat.lt_of_not_le fun h => tail_waits hs hc hn inv _ i rfl hin hun j h hj
    refine ⟨hjn, ?_⟩
    by_cases hji : j = i
    · subst hji; exact hy.qOp hi H
    · obtain ⟨hjun, oj, hoj, hall⟩ := mem_ready.1 hj
      have hnot : ∀ e ∈ oj.after, Region.binds md e = true → e.on ≠ i := fun e he hb heq => by
        have h1 := hall e he hb
        rw [heq, getD_both hun] at h1
        cases h1
      have h2 := qOp_put hoj (hfree j oj hoj hji hjun hnot) (fun cs b => hsel i oi cs b hi) (fun cs b => hsel j oj cs b hoj) hy (H.2 j (ready_mono hj hji)).2
      refine qOp_mono (fun a' h3 => ih (listed.setIfInBounds j true) a' (inv.set hj hjn) (fun k ok hk hki hunk hno => ?_) (ready_mono hr (Ne.symm hji)) h3.1 ?_) h2
      · refine hfree k ok hk hki ?_ hno
        by_cases hjk : j = k
        · subst hjk; exact hjun
        · rw [getD_set_ne true hjk] at hunk; exact hunk
      · rw [Array.setIfInBounds_comm _ _ hji]
        exact h3.2

theorem head_lex {n g : Nat} {Lq : Act → Prop} (hsel : Region.noSelect ops = true) (hs : Region.sinkB md ops n = true) (hc : Region.chainB md ops n = true) (hn : n < ops.size) :
    ∀ (l : List Oper) (k : Nat) (listed : Array Bool) (a : Act), (∀ j, j < l.length → l[j]? = ops[k + j]?) → k + l.length = n → HeadInv md ops n listed →
    Region.lexHead md ops g l.length k listed = true → wpQuiet P ops C Lq l a →
    headAny P md ops C n (fun listed' a' => Region.seqB md ops g n listed' = true ∧ Lq a') l.length listed a := by
  intro l
  induction l with
  | nil =>
    intro k listed a _ hk _ hB h
    obtain rfl : k = n := by simpa using hk
    exact ⟨by simpa [Region.lexHead] using hB, h⟩
  | cons o l ih =>
    intro k listed a hl hk inv hB h
    have h0 : ops[k]? = some o := by simpa using (hl 0 (by simp)).symm
    simp only [List.length_cons, Region.lexHead, Bool.and_eq_true] at hB hk
    obtain ⟨⟨hr, hf⟩, hB'⟩ := hB
    have hr' : k ∈ Region.ready md ops listed := by simpa using hr
    have hq : qOp P ops C k (wpQuiet P ops C Lq l) a := by unfold qOp; simp only [h0]; exact h
    obtain ⟨v, hy, hK⟩ := yieldsIn_of_qOp h0 hq
    refine head_first h0 (Region.noSelect_spec hsel) hs hc hn (by omega) (fun _ _ hL => seqB_ready hL.1) l.length listed a inv (Region.free_spec h0 hf) hr' hy ?_
    refine ih (k + 1) _ _ (fun j hj => ?_) (by omega) (inv.set hr' (by omega)) hB' hK
    have := hl (j + 1) (by simp; omega)
    simpa [Nat.add_assoc, Nat.add_comm 1 j] using this

/-- A region that draws its order, written out: its first n operations quiet in the class, the rest in one forced order behind them. -/
theorem region_tail {id : Nat} {Q : Exit → Act → World → Prop} {a : Act} {w : World} {l : List Oper} (n : Nat) (hm : P.follows .mixedOrders = true) (hB : Region.lexTailB .any l.toArray n = true) (hC : C w.drew)
    (h : wpQuiet P l.toArray C (fun a' => ∀ w', C w' → wpList P l.toArray Q (l.drop n) a' w') (l.take n) a) : (Code.region id l.toArray true).wp P Q a w := by
  simp only [Region.lexTailB, Bool.and_eq_true, decide_eq_true_eq] at hB
  obtain ⟨⟨⟨⟨hsel, hn⟩, hs⟩, hc⟩, hlex⟩ := hB
  have hn' : n < l.length := by simpa using hn
  have htl : (l.take n).length = n := by simp; omega
  have hdl : (l.drop n).length = l.toArray.size - n := by simp
  have inv0 : HeadInv .any l.toArray n (Array.replicate l.toArray.size false) :=
    ⟨by simp, fun j oj _ hl => (by rw [getD_replicate_false] at hl; cases hl), fun t _ ht => getD_in (by simpa using ht) (getD_replicate_false _ _)⟩
  have H := head_lex (md := .any) (g := l.toArray.size - n) hsel hs hc hn (l.take n) 0 _ a (fun j hj => by
    have hj' : j < n := by rw [htl] at hj; exact hj
    simp [hj']) (by simpa using htl) inv0 (by rw [htl]; exact hlex) h
  have K := any_of_head (Q' := Q) (m := l.toArray.size - n) (fun listed a' w' hw' hL => by
    have := wpAny_of_seq (md := .any) (Q' := Q) (l.drop n) n listed a' w' (fun j => by simp [List.getElem?_drop]) (by rw [hdl]; exact hL.1) (hL.2 w' hw')
    rwa [hdl] at this) _ _ _ w.drew hC H
  rw [htl, show n + (l.toArray.size - n) = l.toArray.size from by omega] at K
  exact wp_region_any hm K

/-- The same, at the class of the grown worlds. -/
theorem region_grow_tail {id : Nat} {Q : Exit → Act → World → Prop} {a : Act} {w : World} {l : List Oper} (n : Nat) (hm : P.follows .mixedOrders = true) (hB : Region.lexTailB .any l.toArray n = true)
    (h : wpQuiet P l.toArray (fun w' => ∃ g, w' = grow w g) (fun a' => ∀ w', (∃ g, w' = grow w g) → wpList P l.toArray Q (l.drop n) a' w') (l.take n) a) : (Code.region id l.toArray true).wp P Q a w :=
  region_tail (C := fun w' => ∃ g, w' = grow w g) n hm hB (Grows.drew (Grows.refl w)) h

/-- A region without a tail, at the class of the grown worlds. -/
theorem region_grow {id : Nat} {Q : Exit → Act → World → Prop} {a : Act} {w : World} {l : List Oper} (hm : P.follows .mixedOrders = true) (hB : Region.lexB .any l.toArray = true)
    (h : wpQuiet P l.toArray (fun w' => ∃ g, w' = grow w g) (fun a' => ∀ w', (∃ g, w' = grow w g) → Q .normal a' w') l a) : (Code.region id l.toArray true).wp P Q a w :=
  wp_region_quiet (C := fun w' => ∃ g, w' = grow w g) hm hB (Grows.drew (Grows.refl w)) (by simpa using h)

/-- The same two, where the world has already grown: the two growths are one. -/
theorem region_grow_tail2 {id : Nat} {Q : Exit → Act → World → Prop} {a : Act} {w : World} {g0 : Growth} {l : List Oper} (n : Nat) (hm : P.follows .mixedOrders = true) (hB : Region.lexTailB .any l.toArray n = true)
    (h : wpQuiet P l.toArray (fun w' => ∃ g, w' = grow w g) (fun a' => ∀ w', (∃ g, w' = grow w g) → wpList P l.toArray Q (l.drop n) a' w') (l.take n) a) : (Code.region id l.toArray true).wp P Q a (grow w g0) :=
  region_tail (C := fun w' => ∃ g, w' = grow w g) n hm hB ⟨_, drew_grow w g0⟩ h
theorem region_grow2 {id : Nat} {Q : Exit → Act → World → Prop} {a : Act} {w : World} {g0 : Growth} {l : List Oper} (hm : P.follows .mixedOrders = true) (hB : Region.lexB .any l.toArray = true)
    (h : wpQuiet P l.toArray (fun w' => ∃ g, w' = grow w g) (fun a' => ∀ w', (∃ g, w' = grow w g) → Q .normal a' w') l a) : (Code.region id l.toArray true).wp P Q a (grow w g0) :=
  wp_region_quiet (C := fun w' => ∃ g, w' = grow w g) hm hB ⟨_, drew_grow w g0⟩ (by simpa using h)
end
attribute [irreducible] grow
end Go.Proofs.YtklcmlbkhjcaiaaDoor
