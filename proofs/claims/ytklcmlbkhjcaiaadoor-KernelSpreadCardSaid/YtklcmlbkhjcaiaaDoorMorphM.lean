/- The walks of layer 9's Least and Most. -/
import Derived.Test.YtklcmlbkhjcaiaaDoorMorphB


namespace Go.Proofs.YtklcmlbkhjcaiaaDoor
open Go.RowKit
set_option linter.unusedVariables false

set_option maxHeartbeats 1600000 in
theorem morph_Least (b rf : R) (af : Option Addr) (lf cf : Nat) (F : Img) (rx ry : Nat) (w : World) (hf : Hid (BufAt w rf af lf cf F)) (hsf : cntR rf ≤ 140737488355328) (hb : rightR b = true) (hsg : cntR (growR b 0 ry 0 ry) ≤ 40000) (hsb : cntR (someR b) ≤ 40000) (hx1 : rx ≤ 255) (hy1 : ry ≤ 255) :
    Calls Tryd.prog 38 #[.agg #[.int .i64 rf.x0, .int .i64 rf.y0, .int .i64 rf.x1, .int .i64 rf.y1, .slice af lf cf], .agg #[.int .i64 b.x0, .int .i64 b.y0, .int .i64 b.x1, .int .i64 b.y1], .int .i64 (rx : Int), .int .i64 (ry : Int)] w (RetBuf w (someR b) (boxM false b rx ry F)) := by
  have HB : Hid (∀ W, Grows w W → Calls Tryd.prog 64 #[.agg #[.int .i64 rf.x0, .int .i64 rf.y0, .int .i64 rf.x1, .int .i64 rf.y1, .slice af lf cf], .agg #[.int .i64 b.x0, .int .i64 b.y0, .int .i64 b.x1, .int .i64 b.y1], .int .i64 (rx : Int), .int .i64 (ry : Int), .int .u8 255] W (RetBuf W (someR b) (boxM false b rx ry F))) := fun W g => morph_both false b rf af lf cf F rx ry W (hf.out.grows g) hsf hb hsg hsb hx1 hy1
  obtain ⟨B, hB⟩ : ∃ B, B = boxM false b rx ry F := ⟨_, rfl⟩
  rw [← hB] at HB ⊢
  obtain ⟨t, ht⟩ : ∃ t, t = someR b := ⟨_, rfl⟩
  rw [← ht] at HB ⊢
  clear hB ht hf
  go_enter Tryd.func38, Tryd.ntmps38
  go_wp2_with (go_at_call 64; (with_reducible refine Calls.mono (HB.out _ ?_) ?_); (exact (by repeat (first | exact Grows.refl _ | apply Grows.grow | apply Grows.alloc | apply Grows.drew))); rintro e w' ⟨a2, l2, p2, rfl, hgw, HB2⟩; (first | (obtain ⟨gw, rfl⟩ := grows_of_grow hgw) | (obtain ⟨gw, rfl⟩ := hgw)))
  refine bodyPost_ret (results_cell_row rfl _ _ _ 35 #[.int .i64 t.x0, .int .i64 t.y0, .int .i64 t.x1, .int .i64 t.y1, .slice a2 l2 p2] (0, 0) _ rfl (by repeat (first | exact blk_at _ _ _ (by first | omega | (simp; done) | (simp; omega)) | refine (blk_past _ _ _ (by first | omega | (simp; done) | (simp; omega))).trans ?_ | refine (heap_grow _ _ _ (by first | omega | (simp; done) | (simp; omega))).trans ?_ | refine (blk_drew _ _).trans ?_)) Tryd.underlying35 rfl buf_info) rfl ⟨a2, l2, p2, rfl, (by repeat (first | exact Grows.refl _ | apply Grows.grow | apply Grows.alloc | apply Grows.drew)), swap_ret HB2.out (by simp <;> omega) (by simp <;> omega)⟩
set_option maxHeartbeats 1600000 in
theorem morph_Most (b rf : R) (af : Option Addr) (lf cf : Nat) (F : Img) (rx ry : Nat) (w : World) (hf : Hid (BufAt w rf af lf cf F)) (hsf : cntR rf ≤ 140737488355328) (hb : rightR b = true) (hsg : cntR (growR b 0 ry 0 ry) ≤ 40000) (hsb : cntR (someR b) ≤ 40000) (hx1 : rx ≤ 255) (hy1 : ry ≤ 255) :
    Calls Tryd.prog 39 #[.agg #[.int .i64 rf.x0, .int .i64 rf.y0, .int .i64 rf.x1, .int .i64 rf.y1, .slice af lf cf], .agg #[.int .i64 b.x0, .int .i64 b.y0, .int .i64 b.x1, .int .i64 b.y1], .int .i64 (rx : Int), .int .i64 (ry : Int)] w (RetBuf w (someR b) (boxM true b rx ry F)) := by
  have HB : Hid (∀ W, Grows w W → Calls Tryd.prog 64 #[.agg #[.int .i64 rf.x0, .int .i64 rf.y0, .int .i64 rf.x1, .int .i64 rf.y1, .slice af lf cf], .agg #[.int .i64 b.x0, .int .i64 b.y0, .int .i64 b.x1, .int .i64 b.y1], .int .i64 (rx : Int), .int .i64 (ry : Int), .int .u8 0] W (RetBuf W (someR b) (boxM true b rx ry F))) := fun W g => morph_both true b rf af lf cf F rx ry W (hf.out.grows g) hsf hb hsg hsb hx1 hy1
  obtain ⟨B, hB⟩ : ∃ B, B = boxM true b rx ry F := ⟨_, rfl⟩
  rw [← hB] at HB ⊢
  obtain ⟨t, ht⟩ : ∃ t, t = someR b := ⟨_, rfl⟩
  rw [← ht] at HB ⊢
  clear hB ht hf
  go_enter Tryd.func39, Tryd.ntmps39
  go_wp2_with (go_at_call 64; (with_reducible refine Calls.mono (HB.out _ ?_) ?_); (exact (by repeat (first | exact Grows.refl _ | apply Grows.grow | apply Grows.alloc | apply Grows.drew))); rintro e w' ⟨a2, l2, p2, rfl, hgw, HB2⟩; (first | (obtain ⟨gw, rfl⟩ := grows_of_grow hgw) | (obtain ⟨gw, rfl⟩ := hgw)))
  refine bodyPost_ret (results_cell_row rfl _ _ _ 35 #[.int .i64 t.x0, .int .i64 t.y0, .int .i64 t.x1, .int .i64 t.y1, .slice a2 l2 p2] (0, 0) _ rfl (by repeat (first | exact blk_at _ _ _ (by first | omega | (simp; done) | (simp; omega)) | refine (blk_past _ _ _ (by first | omega | (simp; done) | (simp; omega))).trans ?_ | refine (heap_grow _ _ _ (by first | omega | (simp; done) | (simp; omega))).trans ?_ | refine (blk_drew _ _).trans ?_)) Tryd.underlying35 rfl buf_info) rfl ⟨a2, l2, p2, rfl, (by repeat (first | exact Grows.refl _ | apply Grows.grow | apply Grows.alloc | apply Grows.drew)), swap_ret HB2.out (by simp <;> omega) (by simp <;> omega)⟩
end Go.Proofs.YtklcmlbkhjcaiaaDoor
