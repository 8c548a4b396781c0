/- The walk of the reference's Of (layer 14). -/
import Derived.Test.YtklcmlbkhjcaiaaDoorNeedB
import Derived.Test.YtklcmlbkhjcaiaaDoorNeedC
import Derived.Test.YtklcmlbkhjcaiaaDoorNeedD
import Derived.Test.YtklcmlbkhjcaiaaDoorNeedE





namespace Go.Proofs.YtklcmlbkhjcaiaaDoor
open Go.RowKit
set_option linter.unusedVariables false

theorem ref14_Of (op : Int) (ia : Option Addr) (il ic : Nat) (pa : Option Addr) (pl pc : Nat) (p : Nat → Int) (s : R) (w : World) (hic : il ≤ ic ∧ ic ≤ 9223372036854775807) (hp : Hid (IsInts w pa pl pc p)) (hlp : (pl : Int) = prmN op) (hk : NodeOk op p il) (hs : smallR s) :
    Calls Tryd.prog 9 #[.agg #[.int .i64 op, .slice ia il ic, .slice pa pl pc], .agg #[.int .i64 s.x0, .int .i64 s.y0, .int .i64 s.x1, .int .i64 s.y1]] w fun e w' => ∃ a cap, e = .returned (.slice a il cap) ∧ Grows w w' ∧ Hid (IsRects w' a il cap (fun _ => needR op p s)) := by
  cases he : emptyR s
  case true => exact ref14_Of_empty op ia il ic pa pl pc p s w hic hp hlp hk hs he
  have hop := hk.op_
  have hc : op = 1 ∨ op = 2 ∨ op = 3 ∨ op = 4 ∨ op = 5 ∨ op = 6 ∨ op = 7 ∨ op = 8 ∨ op = 9 ∨ op = 10 ∨ op = 11 ∨ op = 12 := by omega
  rcases hc with h | h | h | h | h | h | h | h | h | h | h | h
  · exact ref14_Of_1 op ia il ic pa pl pc p s w hic hp hlp hk hs he h
  · exact ref14_Of_2 op ia il ic pa pl pc p s w hic hp hlp hk hs he h
  · exact ref14_Of_3 op ia il ic pa pl pc p s w hic hp hlp hk hs he h
  · exact ref14_Of_4 op ia il ic pa pl pc p s w hic hp hlp hk hs he h
  · exact ref14_Of_5 op ia il ic pa pl pc p s w hic hp hlp hk hs he h
  · exact ref14_Of_6 op ia il ic pa pl pc p s w hic hp hlp hk hs he h
  · exact ref14_Of_7 op ia il ic pa pl pc p s w hic hp hlp hk hs he h
  · exact ref14_Of_8 op ia il ic pa pl pc p s w hic hp hlp hk hs he h
  · exact ref14_Of_9 op ia il ic pa pl pc p s w hic hp hlp hk hs he h
  · exact ref14_Of_10 op ia il ic pa pl pc p s w hic hp hlp hk hs he h
  · exact ref14_Of_11 op ia il ic pa pl pc p s w hic hp hlp hk hs he h
  · exact ref14_Of_12 op ia il ic pa pl pc p s w hic hp hlp hk hs he h
end Go.Proofs.YtklcmlbkhjcaiaaDoor
