/- The walk of the reference's Reach (layer 13). -/
import Derived.Test.YtklcmlbkhjcaiaaDoorReachA
import Derived.Test.YtklcmlbkhjcaiaaDoorReachB
import Derived.Test.YtklcmlbkhjcaiaaDoorReachC




namespace Go.Proofs.YtklcmlbkhjcaiaaDoor
open Go.RowKit
set_option linter.unusedVariables false

theorem ref13_Reach (op : Int) (ia : Option Addr) (il ic : Nat) (pa : Option Addr) (pl pc : Nat) (p : Nat → Int) (a : Option Addr) (len cap : Nat) (r : Nat → R) (w : World) (hp : Hid (IsInts w pa pl pc p)) (hlp : (pl : Int) = prmN op) (hl : Hid (IsRects w a len cap r)) (hk : NodeOk op p len) (hr : ∀ i, i < len → rightR (r i) = true) :
    Calls Tryd.prog 22 #[.agg #[.int .i64 op, .slice ia il ic, .slice pa pl pc], .slice a len cap] w fun e w' => e = .returned (.agg #[.int .i64 (reachR op p len r).x0, .int .i64 (reachR op p len r).y0, .int .i64 (reachR op p len r).x1, .int .i64 (reachR op p len r).y1]) ∧ Grows w w' := by
  have hop := hk.op_
  have hc : op = 1 ∨ op = 2 ∨ op = 3 ∨ op = 4 ∨ op = 5 ∨ op = 6 ∨ op = 7 ∨ op = 8 ∨ op = 9 ∨ op = 10 ∨ op = 11 ∨ op = 12 := by omega
  rcases hc with rfl | rfl | rfl | rfl | rfl | rfl | rfl | rfl | rfl | rfl | rfl | rfl
  · exact ref13_Reach_1 ia il ic pa pl pc p a len cap r w hp hlp hl hk hr
  · exact ref13_Reach_2 ia il ic pa pl pc p a len cap r w hp hlp hl hk hr
  · exact ref13_Reach_3 ia il ic pa pl pc p a len cap r w hp hlp hl hk hr
  · exact ref13_Reach_4 ia il ic pa pl pc p a len cap r w hp hlp hl hk hr
  · exact ref13_Reach_5 ia il ic pa pl pc p a len cap r w hp hlp hl hk hr
  · exact ref13_Reach_6 ia il ic pa pl pc p a len cap r w hp hlp hl hk hr
  · exact ref13_Reach_7 ia il ic pa pl pc p a len cap r w hp hlp hl hk hr
  · exact ref13_Reach_8 ia il ic pa pl pc p a len cap r w hp hlp hl hk hr
  · exact ref13_Reach_9 ia il ic pa pl pc p a len cap r w hp hlp hl hk hr
  · exact ref13_Reach_10 ia il ic pa pl pc p a len cap r w hp hlp hl hk hr
  · exact ref13_Reach_11 ia il ic pa pl pc p a len cap r w hp hlp hl hk hr
  · exact ref13_Reach_12 ia il ic pa pl pc p a len cap r w hp hlp hl hk hr
end Go.Proofs.YtklcmlbkhjcaiaaDoor
