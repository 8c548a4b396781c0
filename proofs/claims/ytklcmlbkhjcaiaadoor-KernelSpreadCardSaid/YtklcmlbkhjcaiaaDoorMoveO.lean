/- The walks of layer 10: one buffer on top of another, by the reference. -/
import Derived.Test.YtklcmlbkhjcaiaaDoorMoveT
import Derived.Test.YtklcmlbkhjcaiaaDoorK13
import Derived.Test.YtklcmlbkhjcaiaaDoorRef8B
import Derived.Test.YtklcmlbkhjcaiaaDoorOneF





namespace Go.Proofs.YtklcmlbkhjcaiaaDoor
open Go.RowKit
set_option linter.unusedVariables false

theorem scaleP_ok {p : P4} {k : Int} (hp : okP p) (hk : 0 ≤ k ∧ k ≤ 255) : okP (scaleP p k) := ⟨mulT_bd _ _ hp.1.1 hp.1.2 hk.1 hk.2, mulT_bd _ _ hp.2.1.1 hp.2.1.2 hk.1 hk.2, mulT_bd _ _ hp.2.2.1.1 hp.2.2.1.2 hk.1 hk.2, mulT_bd _ _ hp.2.2.2.1 hp.2.2.2.2 hk.1 hk.2⟩
theorem compP_ok (op : Int) (p q : P4) : okP (compP op p q) := compP_bytes op p q
def overF (F G : Img) : Img := fun x y => compP 0 (F x y) (G x y)
theorem overF_ok (F G : Img) (x y : Int) : okP (overF F G x y) := compP_ok 0 _ _
theorem mix_overIs (p q r : P4) (w : World) (hp : okP p) (hq : okP q) (h : Hid (compP 0 p q = r)) : Calls Tryd.prog 69 #[.int .i64 0, .agg #[.int .u8 p.r, .int .u8 p.g, .int .u8 p.b, .int .u8 p.a], .agg #[.int .u8 q.r, .int .u8 q.g, .int .u8 q.b, .int .u8 q.a]] w fun e w' => e = .returned (.agg #[.int .u8 r.r, .int .u8 r.g, .int .u8 r.b, .int .u8 r.a]) ∧ Grows w w' := by
  have := mix_comp 0 p.r p.g p.b p.a q.r q.g q.b q.a w (by omega) hp.1 hp.2.1 hp.2.2.1 hp.2.2.2 hq.1 hq.2.1 hq.2.2.1 hq.2.2.2
  rw [← h.out]
  exact this
theorem tone_scaleIs (p r : P4) (k : Int) (w : World) (hp : okP p) (hk : 0 ≤ k ∧ k ≤ 255) (h : Hid (scaleP p k = r)) : Calls Tryd.prog 68 #[.agg #[.int .u8 p.r, .int .u8 p.g, .int .u8 p.b, .int .u8 p.a], .int .u8 k] w fun e w' => e = .returned (.agg #[.int .u8 r.r, .int .u8 r.g, .int .u8 r.b, .int .u8 r.a]) ∧ Grows w w' := by
  have := tone_scale p.r p.g p.b p.a k w hp.1 hp.2.1 hp.2.2.1 hp.2.2.2 hk
  rw [← h.out]
  exact this

end Go.Proofs.YtklcmlbkhjcaiaaDoor
